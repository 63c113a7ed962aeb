/- Part of the proof of TopBoundsUptoCardSaid. Conditions: none beyond the statement. -/
import Derived.Test.YtmgmclkplepapaaGreatDoorPt1
set_option linter.all false
set_option maxRecDepth 100000
set_option maxHeartbeats 64000000
namespace Go.Proofs.YtmgmclkplepapaaGreatDoor
def dL (l:List UInt8):Nat:=pP kS l
theorem eM:dL []=0:=rfl
theorem lN (c:UInt8) (l:List UInt8):dL (c::l)=kS c+dL l:=kP _ _ _
theorem cM (a b:List UInt8):dL (a++b)=dL a+dL b:=yW _ _ _
theorem X0 (c:UInt8):1≤kS c:=by unfold kS;split<;>omega
theorem KQ (c:UInt8):kS c≤5:=by unfold kS;split<;>omega
theorem Er (l:List UInt8):dL l≤5*l.length:=Q5 _ 5 l fun c _=>KQ c
theorem AM (l:List UInt8):l.length≤dL l:=by
 induction l with
 |nil=>simp[eM]
 |cons c t ih=>rw[lN,List.length_cons];have:=X0 c;omega
def Aj (L:List (List UInt8)):Nat:=dL (L.flatMap fun p=>47::p)
theorem oR:Aj []=0:=rfl
theorem xO (p:List UInt8) (L:List (List UInt8)):Aj (p::L)=1+dL p+Aj L:=by
 unfold Aj;rw[List.flatMap_cons,cM,lN];have:kS 47=1:=by decide
 omega
theorem Hq (L:List (List UInt8)) (k:Nat):Aj (L.take k)≤Aj L:=by
 induction L generalizing k with
 |nil=>simp
 |cons p L ih=>
  cases k with
  |zero=>simp[oR]
  |succ k=>rw[List.take_succ_cons,xO,xO];have:=ih k;omega
structure LZ (J:Cg):Prop where
 enc:∀k l,dL (J.enc k l)≤5*l.length
 iH:∀s L,Aj (J.iH s L)≤Aj L
 dU:∀s L t,Aj (J.dU s L t)≤Aj L+5*t.length+1
 host:∀s b h,J.Hm s b=some h→dL (J.Ai h)≤5*s.length+41
 none:J.Ai {kind:=1}=[]
 port:∀s t has n,J.uR s t=some (has,n)→dL (J.itoa n)≤5
def wV (p:cU):Nat:=
 (if p.hasScheme then p.scheme.length+1 else 0)+p.rest.length+(if p.hasQuery then p.query.length+1 else 0)+(if p.hasFrag then p.frag.length+1 else 0)
section
variable {J:Cg} (W:LZ J)
theorem Rb (b:Bool) (c:UInt8) (l:List UInt8):dL (if b then[c]++l else[])=if b then kS c+dL l else 0:=by
 cases b with
 |false=>rfl
 |true=>simp only[if_true];rw[cM,lN,eM];omega
def fA (u:bD):Nat:=if u.hasQuery then 1+dL u.query else 0
def kV (u:bD):Nat:=if u.hasFrag then 1+dL u.frag else 0
theorem xP (u:bD):dL (aQ J u true)=dL u.scheme+1+dL (gE J u)+dL (mA u)+fA u+kV u:=by
 unfold aQ fA kV;rw[cM,cM,cM,cM,cM,Rb,Bool.and_true,Rb,lN,eM];have h1:kS 58=1:=by decide
 have h2:kS 63=1:=by decide
 have h3:kS 35=1:=by decide
 rw[h1,h2,h3]
theorem mJ {u:bD} (h:u.opaq=false):dL (mA u)=Aj u.path:=by unfold mA Aj;rw[h];rfl
def Dd (u:bD):Nat:=2+dL (xN u)+dL (J.Ai u.host)+(if u.hasPort then 1+dL (J.itoa u.port) else 0)
theorem BO {u:bD} (h:u.host.kind≠0):dL (gE J u)=Dd (J:=J) u:=by
 unfold gE Dd;rw[if_pos h,cM,cM,cM,Rb];have h1:kS 58=1:=by decide
 have h2:dL [47,47]=2:=by decide
 rw[h1,h2]
theorem xQ {u:bD} (h:u.host.kind=0):dL (gE J u)≤2:=by
 unfold gE;rw[if_neg (by rw[h];simp)];split;·decide
 ·simp[eM]
theorem L5 (u:bD):dL (gE J u)≤Dd (J:=J) u:=by
 by_cases h:u.host.kind≠0;·rw[BO h];exact Nat.le_refl _
 ·have:=xQ (J:=J) (u:=u) (by omega);unfold Dd;omega
theorem Es {u b:bD} (h1:u.user=b.user) (h2:u.pass=b.pass) (h3:u.host=b.host) (h4:u.hasPort=b.hasPort) (h5:u.port=b.port):
 dL (gE J u)≤dL (gE J b)+2:=by
 by_cases h:b.host.kind≠0;·rw[BO h,BO (by rw[h3];exact h)];unfold Dd xN;rw[h1,h2,h3,h4,h5];omega
 ·have:=xQ (J:=J) (u:=u) (by rw[h3];omega);omega
theorem agC (u:bD):dL (xN u)≤dL u.user+dL u.pass+2:=by
 unfold xN;have h1:dL [58]=1:=by decide
 have h2:dL [64]=1:=by decide
 split;·simp[eM]
 ·split;·rw[cM,h2];omega
  ·rw[cM,cM,cM,h1,h2];omega
theorem jF (f:UInt8→Bool) (s:List UInt8):(s.takeWhile f).length+(s.dropWhile f).length=s.length:=by have:=congrArg List.length (List.takeWhile_append_dropWhile (p:=f) (l:=s));rw[List.length_append] at this;exact this
theorem X1 (q:UInt8) (s:List UInt8):(Ep q s).1.length+(Ep q s).2.length≤s.length:=by unfold Ep;have:=jF (· !=q) s;simp only[List.length_drop];omega
theorem KR (sp:Bool) (s:List UInt8):(dN sp s).1.length+(dN sp s).2.length=s.length:=by unfold dN;exact jF (fun c=> !fR sp c) s
include W in
theorem Fx {scheme user pass s:List UInt8} {a:AJ} (h:dX J scheme user pass s=some a):
 a.user=user∧a.pass=pass∧dL (J.Ai a.host)≤5*s.length+41∧dL (J.itoa a.port)≤5:=by
 unfold dX at h;split at h;·cases h
 ·split at h;·cases h
  ·rename_i x hx;split at h;·cases h
   ·rename_i has n hp;cases h;have h1:=W.host _ _ _ hx;have h2:=W.port _ _ _ _ hp;rw[List.length_take] at h1;exact⟨rfl,rfl,by show dL (J.Ai x)≤_;omega,h2⟩
 ·split at h;·cases h
  ·rename_i x hx;split at h;·cases h
   ·rename_i has n hp;cases h;exact⟨rfl,rfl,W.host _ _ _ hx,W.port _ _ _ _ hp⟩
include W in
theorem U5 {scheme s:List UInt8} {a:AJ} (h:fI J scheme s=some a):
 dL a.user+dL a.pass+dL (J.Ai a.host)≤5*s.length+41∧dL (J.itoa a.port)≤5:=by
 unfold fI at h;split at h
 ·rename_i k hk;split at h;·cases h
  ·obtain⟨h1,h2,h3,h4⟩:=Fx W h;have e1:=W.enc 5 (Ep 58 (s.take k)).1;have e2:=W.enc 5 (Ep 58 (s.take k)).2;have e3:=X1 58 (s.take k);rw[List.length_take] at e3;rw[List.length_drop] at h3;rw[h1,h2];exact⟨by omega,h4⟩
 ·obtain⟨h1,h2,h3,h4⟩:=Fx W h;rw[h1,h2,eM];exact⟨by omega,h4⟩
include W in
theorem Et (scheme s:List UInt8):Aj (oQ J scheme s)≤5*s.length+1:=by
 unfold oQ;have:=W.dU scheme [] (if 0 < cV J scheme s then s.drop 1 else s);rw[oR] at this;have h2:(if 0 < cV J scheme s then s.drop 1 else s).length≤s.length:=by
  split;·rw[List.length_drop];omega
  ·omega
 omega
include W in
theorem L6 {u v:bD} {s:List UInt8} (h:tI J u s=some v) (ho:u.opaq=false) (hp:u.path=[]):
 v.scheme=u.scheme∧fA v=fA u∧kV v=kV u∧dL (gE J v)+dL (mA v)≤5*s.length+52:=by
 unfold tI at h;split at h;·cases h
 ·rename_i a ha;cases h;obtain⟨h1,h2⟩:=U5 W ha;refine⟨rfl,rfl,rfl,?_⟩;generalize hv:Hp u a (Dc J u s)=v;have e1:v.user=a.user:=by rw[←hv];rfl
  have e2:v.pass=a.pass:=by rw[←hv];rfl
  have e3:v.host=a.host:=by rw[←hv];rfl
  have e4:v.port=a.port:=by rw[←hv];rfl
  have e5:v.opaq=false:=by rw[←hv];exact ho
  have e6:Aj v.path≤5*(dN (J.aV u.scheme) s).2.length+1:=by
   rw[←hv];show Aj (Dc J u s)≤_;unfold Dc;split;·exact Et W _ _
   ·rw[hp,oR];omega
  have e7:=KR (J.aV u.scheme) s;have e8:=L5 (J:=J) v;have e9:=agC v;rw[mJ e5];unfold Dd at e8;rw[e1,e2] at e9;rw[e3,e4] at e8;have e10:(if v.hasPort then 1+dL (J.itoa a.port) else 0)≤6:=by split<;>omega
  omega
include W in
theorem De (scheme:List UInt8) (p:cU):fA (bG J scheme p)≤5*(if p.hasQuery then p.query.length+1 else 0)∧kV (bG J scheme p)≤5*(if p.hasFrag then p.frag.length+1 else 0):=by
 have h1:=W.enc (if J.aV scheme then 3 else 2) p.query;have h2:=W.enc 1 p.frag;unfold fA kV bG;constructor;·show(if p.hasQuery=true then 1+dL (J.enc (if J.aV scheme then 3 else 2) p.query) else 0)≤_;split<;>omega
 ·show(if p.hasFrag=true then 1+dL (J.enc 1 p.frag) else 0)≤_;split<;>omega
include W in
theorem xR {u:bD} {sc:List UInt8} {L:List (List UInt8)} {t:List UInt8} (ho:u.opaq=false) (hp:u.path=J.dU sc L t):dL (mA u)≤Aj L+5*t.length+1:=by rw[mJ ho,hp];exact W.dU sc L t
def NQ (p:cU):Nat:=if p.hasQuery then p.query.length+1 else 0
def Hr (p:cU):Nat:=if p.hasFrag then p.frag.length+1 else 0
def Fy (p:cU):Nat:=if p.hasScheme then p.scheme.length+1 else 0
theorem xS (p:cU):wV p=Fy p+p.rest.length+NQ p+Hr p:=rfl
theorem L7 {u:bD} {n:Nat} (h:dL u.scheme+1+dL (gE J u)+dL (mA u)+fA u+kV u≤n):dL (aQ J u true)≤n:=by rw[xP];exact h
include W in
theorem X2 {p:cU} {u:bD} (h:qE J p=some u) (hs:p.hasScheme=true):dL (aQ J u true)≤5*wV p+53:=by
 have tH:=De W p.scheme p;have abP:=Er p.scheme;have hc:Fy p=p.scheme.length+1:=by unfold Fy;rw[if_pos hs]
 apply L7;rw[xS];unfold NQ Hr;unfold qE at h;simp only at h;split at h;·obtain⟨h1,h2,h3,h4⟩:=L6 W h rfl rfl;rw[h1,h2,h3];rw[List.length_drop] at h4;have:dL (bG J p.scheme p).scheme=dL p.scheme:=rfl;omega
 ·split at h;·cases h;have h4:=xR W (u:={bG J p.scheme p with path:=J.dU p.scheme [] (p.rest.drop 1)}) (sc:=p.scheme) (L:=[]) (t:=p.rest.drop 1) rfl rfl;have h5:=xQ (J:=J) (u:={bG J p.scheme p with path:=J.dU p.scheme [] (p.rest.drop 1)}) rfl;rw[oR,List.length_drop] at h4;show dL p.scheme+1+dL (gE J {bG J p.scheme p with path:=J.dU p.scheme [] (p.rest.drop 1)})+dL (mA {bG J p.scheme p with path:=J.dU p.scheme [] (p.rest.drop 1)})+fA (bG J p.scheme p)+kV (bG J p.scheme p)≤_;omega
  ·cases h;have h5:=xQ (J:=J) (u:={bG J p.scheme p with opaq:=true,flat:=rT p (J.enc 0 p.rest)}) rfl;have h6:dL (rT p (J.enc 0 p.rest))≤dL (J.enc 0 p.rest)+3:=by
    unfold rT;split
    ·rw[cM];have:dL [37,50,48]=3:=by decide
     have h7:dL (J.enc 0 p.rest).dropLast≤dL (J.enc 0 p.rest):=by rw[List.dropLast_eq_take];have:=Ce kS (J.enc 0 p.rest) ((J.enc 0 p.rest).length - 1);unfold dL;omega
     omega
    ·omega
   have h8:=W.enc 0 p.rest;show dL p.scheme+1+dL (gE J {bG J p.scheme p with opaq:=true,flat:=rT p (J.enc 0 p.rest)})+dL (rT p (J.enc 0 p.rest))+fA (bG J p.scheme p)+kV (bG J p.scheme p)≤_;omega
include W in
theorem abQ {b u:bD} {p:cU} (h:AL J b p=some u):dL (aQ J u true)≤5*wV p+dL (aQ J b true):=by
 unfold AL at h;split at h;·cases h
 ·rename_i hn;cases h;have hf:p.hasFrag=true:=by
   cases hh:p.hasFrag with
   |true=>rfl
   |false=>exact absurd (.inl hh) hn
  have:=W.enc 1 p.frag;rw[xP,xP,xS];have h1:Hr p=p.frag.length+1:=by unfold Hr;rw[if_pos hf]
  show dL b.scheme+1+dL (gE J b)+dL (mA b)+fA b+(1+dL (J.enc 1 p.frag))≤_;omega
include W in
theorem NR {b u:bD} {p:cU} (h:kM J b p=some u) (ho:b.opaq=false):dL (aQ J u true)≤5*wV p+dL (aQ J b true)+53:=by
 have tH:=De W b.scheme p;have hb:=xP (J:=J) b;have U6:=mJ ho;apply L7;rw[xS];unfold NQ Hr;unfold kM at h;simp only at h;have ajK:(bG J b.scheme p).scheme=b.scheme:=rfl;split at h;·obtain⟨h1,h2,h3,h4⟩:=L6 W h rfl rfl;rw[h1,h2,h3,ajK];unfold fD at h4;rw[List.length_drop] at h4;omega
 split at h;·obtain⟨h1,h2,h3,h4⟩:=L6 W h rfl rfl;rw[h1,h2,h3,ajK];rw[List.length_drop] at h4;omega
 split at h
 ·cases h;generalize hu:({lL (bG J b.scheme p) b with path:=J.dU (bG J b.scheme p).scheme [] (p.rest.drop 1)}:bD)=u;have e1:dL (gE J u)≤dL (gE J b)+2:=by subst hu;exact Es rfl rfl rfl rfl rfl
  have e2:=xR W (u:=u) (sc:=b.scheme) (L:=[]) (t:=p.rest.drop 1) (by subst hu;rfl) (by subst hu;rfl);have e3:u.scheme=b.scheme:=by subst hu;rfl
  have e4:fA u=fA (bG J b.scheme p):=by subst hu;rfl
  have e5:kV u=kV (bG J b.scheme p):=by subst hu;rfl
  rw[oR,List.length_drop] at e2;rw[e3,e4,e5];omega
 split at h
 ·cases h;generalize hu:nD (lL (bG J b.scheme p) b) b=u;have e1:dL (gE J u)≤dL (gE J b)+2:=by subst hu;exact Es rfl rfl rfl rfl rfl
  have e2:dL (mA u)=Aj b.path:=by subst hu;exact mJ rfl
  have e3:u.scheme=b.scheme:=by subst hu;rfl
  have e4:fA u≤fA (bG J b.scheme p)+fA b:=by subst hu;unfold fA nD lL;simp only;cases (bG J b.scheme p).hasQuery<;>simp
  have e5:kV u=kV (bG J b.scheme p):=by subst hu;rfl
  rw[e3,e5];omega
 ·cases h;generalize hu:({lL (bG J b.scheme p) b with path:=J.dU (bG J b.scheme p).scheme (J.iH (bG J b.scheme p).scheme b.path) p.rest}:bD)=u;have e1:dL (gE J u)≤dL (gE J b)+2:=by subst hu;exact Es rfl rfl rfl rfl rfl
  have e2:=xR W (u:=u) (sc:=b.scheme) (L:=J.iH b.scheme b.path) (t:=p.rest) (by subst hu;rfl) (by subst hu;rfl);have e3:u.scheme=b.scheme:=by subst hu;rfl
  have e4:fA u=fA (bG J b.scheme p):=by subst hu;rfl
  have e5:kV u=kV (bG J b.scheme p):=by subst hu;rfl
  have e6:=W.iH b.scheme b.path;rw[e3,e4,e5];omega
include W in
theorem X3 {u v:bD} {s:List UInt8} (h:qF J u s=some v) (ho:u.opaq=false) (hu1:u.user=[]) (hu2:u.pass=[]) (hu3:u.hasPort=false) (hk:u.host={kind:=1}):
 v.scheme=u.scheme∧fA v=fA u∧kV v=kV u∧dL (gE J v)+dL (mA v)≤5*s.length+44:=by
 have hw:∀x:lK,∀path,dL (gE J {u with host:=x,path:=path})≤2+dL (J.Ai x):=by intro x path;refine Nat.le_trans (L5 (J:=J) _) ?_;unfold Dd xN;show 2+dL (if u.user=[]∧u.pass=[] then _ else _)+dL (J.Ai x)+(if u.hasPort then _ else 0)≤_;rw[if_pos ⟨hu1,hu2⟩,hu3,eM];simp
 have hw0:∀path,dL (gE J {u with path:=path})≤2:=by
  intro path;have h1:=hw {kind:=1} path;rw[W.none,eM] at h1;have h2:({u with host:={kind:=1},path:=path}:bD)={u with path:=path}:=by rw[←hk]
  rw[h2] at h1;exact h1
 have hp:∀(x:lK) (L:List (List UInt8)),dL (mA {u with host:=x,path:=L})=Aj L:=fun x L=>mJ ho;have XF:∀(L:List (List UInt8)),dL (mA {u with path:=L})=Aj L:=fun L=>mJ ho;have hc:=KR true s;unfold qF at h;simp only at h;split at h;·cases h;refine⟨rfl,rfl,rfl,?_⟩;have h1:=W.dU u.scheme [] s;have h2:=hw0 (J.dU u.scheme [] s);rw[XF];rw[oR] at h1;omega
 split at h;·cases h;refine⟨rfl,rfl,rfl,?_⟩;have h1:=Et W u.scheme (dN true s).2;have h2:=hw0 (oQ J u.scheme (dN true s).2);rw[XF];omega
 split at h;·cases h
 ·rename_i x hx;cases h;refine⟨rfl,rfl,rfl,?_⟩;have h1:=Et W u.scheme (dN true s).2;have h3:=W.host _ _ _ hx;rw[hp];by_cases hl:x.kind≠2∨x.name≠Ho;·rw[if_pos hl];have h2:=hw x (oQ J u.scheme (dN true s).2);omega
  ·rw[if_neg hl];have h2:=hw u.host (oQ J u.scheme (dN true s).2);have h4:dL (J.Ai u.host)=0:=by rw[hk,W.none];rfl
   omega
include W in
theorem abR {b u:bD} {p:cU} (h:lM J b p=some u) (hb:b.scheme=aN→b.opaq=false)
 (hs:(p.hasScheme=true∧p.scheme=aN)∨b.scheme=aN):dL (aQ J u true)≤5*wV p+dL (aQ J b true)+53:=by
 have tH:=De W aN p;have dB:=xP (J:=J) b;have abP:dL aN≤5*Fy p+dL b.scheme:=by
  rcases hs with⟨h1,h2⟩|h1
  ·have:dL aN=4:=by decide
   have:Fy p=p.scheme.length+1:=by unfold Fy;rw[if_pos h1]
   have:p.scheme.length=4:=by rw[h2];rfl
   omega
  ·rw[h1];omega
 apply L7;rw[xS];unfold NQ Hr;unfold lM at h;simp only at h;split at h;·obtain⟨h1,h2,h3,h4⟩:=X3 W h rfl rfl rfl rfl rfl;have e1:fA ({bG J aN p with host:={kind:=1}}:bD)=fA (bG J aN p):=rfl;have e2:kV ({bG J aN p with host:={kind:=1}}:bD)=kV (bG J aN p):=rfl;have e3:({bG J aN p with host:={kind:=1}}:bD).scheme=aN:=rfl;rw[h1,h2,h3,e1,e2,e3];rw[List.length_drop] at h4;omega
 ·generalize QN:(if(b.scheme==aN)=true then({({bG J aN p with host:={kind:=1}}:bD) with host:=b.host}:bD) else{bG J aN p with host:={kind:=1}})=u0 at h;have a1:u0.scheme=aN:=by rw[←QN];split<;>rfl
  have a2:fA u0=fA (bG J aN p):=by rw[←QN];split<;>rfl
  have a3:kV u0=kV (bG J aN p):=by rw[←QN];split<;>rfl
  have a4:u0.opaq=false:=by rw[←QN];split<;>rfl
  have a6:u0.host=if(b.scheme==aN)=true then b.host else{kind:=1}:=by rw[←QN];split<;>rfl
  have a7:u0.user=[]∧u0.pass=[]∧u0.hasPort=false:=by rw[←QN];split<;>exact⟨rfl,rfl,rfl⟩
  clear QN;have a5:∀v:bD,v.host=u0.host→v.user=u0.user→v.pass=u0.pass→v.hasPort=u0.hasPort→dL (gE J v)≤dL (gE J b)+2:=by
   intro v h1 h2 h3 h4;rw[a7.1] at h2;rw[a7.2.1] at h3;rw[a7.2.2] at h4;rw[a6] at h1;have hv:=L5 (J:=J) v;have hw:dL (xN v)=0:=by unfold xN;rw[if_pos ⟨h2,h3⟩];rfl
   by_cases hf:(b.scheme==aN)=true
   ·rw[if_pos hf] at h1;by_cases hk:b.host.kind≠0;·rw[BO hk];unfold Dd at hv⊢;rw[hw,h4,h1] at hv;simp only[Bool.false_eq_true,if_false] at hv;omega
    ·have:=xQ (J:=J) (u:=v) (by rw[h1];omega);omega
   ·rw[if_neg hf] at h1;unfold Dd at hv;rw[hw,h4,h1,W.none,eM] at hv;simp only[Bool.false_eq_true,if_false] at hv;omega
  have hfo:∀X:Bool,(b.scheme==aN&&X)=true→dL (mA b)=Aj b.path:=fun X hX=>by rw[Bool.and_eq_true] at hX;exact mJ (hb (by simpa using hX.1))
  split at h
  ·generalize hL:(if((b.scheme==aN)&&LY J b.path&& !J.AK (p.rest.drop 1))=true then b.path.take 1 else[])=L at h;cases h;generalize hu:({u0 with path:=J.dU aN L (p.rest.drop 1)}:bD)=u;have e1:=a5 u (by subst hu;rfl) (by subst hu;rfl) (by subst hu;rfl) (by subst hu;rfl);have e2:=xR W (u:=u) (sc:=aN) (L:=L) (t:=p.rest.drop 1) (by subst hu;exact a4) (by subst hu;rfl);have e3:u.scheme=aN:=by subst hu;exact a1
   have e4:fA u=fA (bG J aN p):=by rw[←a2];subst hu;rfl
   have e5:kV u=kV (bG J aN p):=by rw[←a3];subst hu;rfl
   have e6:Aj L≤dL (mA b):=by
    rw[←hL];split;·rename_i hc;rw[Bool.and_assoc] at hc;rw[hfo _ hc];exact Hq _ _
    ·rw[oR];omega
   rw[List.length_drop] at e2;rw[e3,e4,e5];omega
  split at h
  ·rename_i hc;cases h;generalize hu:nD u0 b=u;have e1:=a5 u (by subst hu;rfl) (by subst hu;rfl) (by subst hu;rfl) (by subst hu;rfl);have e2:dL (mA u)=Aj b.path:=by subst hu;exact mJ a4
   have e3:u.scheme=aN:=by subst hu;exact a1
   have e4:fA u≤fA (bG J aN p)+fA b:=by rw[←a2];subst hu;unfold fA nD;simp only;cases u0.hasQuery<;>simp
   have e5:kV u=kV (bG J aN p):=by rw[←a3];subst hu;rfl
   have e6:=hfo _ hc;rw[e3,e5];omega
  split at h
  ·rename_i hc;cases h;generalize hu:({u0 with path:=J.dU aN (J.iH aN b.path) p.rest}:bD)=u;have e1:=a5 u (by subst hu;rfl) (by subst hu;rfl) (by subst hu;rfl) (by subst hu;rfl);have e2:=xR W (u:=u) (sc:=aN) (L:=J.iH aN b.path) (t:=p.rest) (by subst hu;exact a4) (by subst hu;rfl);have e3:u.scheme=aN:=by subst hu;exact a1
   have e4:fA u=fA (bG J aN p):=by rw[←a2];subst hu;rfl
   have e5:kV u=kV (bG J aN p):=by rw[←a3];subst hu;rfl
   have e6:=hfo _ hc;have e7:=W.iH aN b.path;rw[e3,e4,e5];omega
  ·cases h;generalize hu:({u0 with path:=J.dU aN [] p.rest}:bD)=u;have e1:=a5 u (by subst hu;rfl) (by subst hu;rfl) (by subst hu;rfl) (by subst hu;rfl);have e2:=xR W (u:=u) (sc:=aN) (L:=[]) (t:=p.rest) (by subst hu;exact a4) (by subst hu;rfl);have e3:u.scheme=aN:=by subst hu;exact a1
   have e4:fA u=fA (bG J aN p):=by rw[←a2];subst hu;rfl
   have e5:kV u=kV (bG J aN p):=by rw[←a3];subst hu;rfl
   rw[oR] at e2;rw[e3,e4,e5];omega
include W in
theorem T5 {b u:bD} {p:cU} (h:kU J b p=some u) (hb:b.scheme=aN→b.opaq=false):dL (aQ J u true)≤5*wV p+dL (aQ J b true)+53:=by
 unfold kU at h;simp only at h;split at h
 ·rename_i hc;refine abR W h hb ?_;rw[Bool.or_eq_true,Bool.and_eq_true,Bool.and_eq_true,Bool.and_eq_true] at hc;rcases hc with⟨h1,h2⟩|⟨_,h2⟩;·exact .inl ⟨h1,by simpa using h2⟩
  ·exact .inr (by simpa using h2)
 split at h
 ·rename_i hc;rw[Bool.and_eq_true,Bool.and_eq_true] at hc;have tH:=De W p.scheme p;have abP:=Er p.scheme;have AB:Fy p=p.scheme.length+1:=by unfold Fy;rw[if_pos hc.1.1]
  obtain⟨h1,h2,h3,h4⟩:=L6 W h rfl rfl;have e3:(bG J p.scheme p).scheme=p.scheme:=rfl;unfold fD at h4;rw[List.length_drop] at h4;apply L7;rw[xS];unfold NQ Hr;rw[h1,h2,h3,e3];omega
 split at h;·rename_i hc;rw[Bool.and_eq_true] at hc;have:=X2 W h hc.1;omega
 split at h;·have:=abQ W h;omega
 ·rename_i ho;exact NR W h (by simpa using ho)
end
def aI (c:UInt8):Bool:=c==9||c==10||c==12||c==13||c==32
def bZ:Bool→List UInt8→Nat
 |_,[]=>0
 |true,c::t=>1+bZ (c !=41) t
 |false,c::t=>if c==40 then 1+bZ true t else if c==44||aI c then 0 else 1+bZ false t
def eO:Nat→List UInt8→List (List UInt8)×List UInt8
 |0,l=>([],l)
 |n+1,l=>
  let r:=l.dropWhile aI
  if bZ false r=0 then([],r)
  else let d:=eO n (r.drop (bZ false r))
       (r.take (bZ false r)::d.1,d.2)
def bV (l:List UInt8):List (List UInt8)×List UInt8:=eO l.length l
def trimRightB (q:UInt8) (l:List UInt8):List UInt8:=(l.reverse.dropWhile (· ==q)).reverse
structure AN where
 url:List UInt8
 words:List (List UInt8)
def gG (D:List (List UInt8)→Bool):Nat→List UInt8→List AN
 |0,_=>[]
 |n+1,l=>
  let a:=l.dropWhile fun c=>c==44||aI c
  if a=[] then[]
  else
   let url:=a.takeWhile fun c=> !aI c;let r:=a.dropWhile fun c=> !aI c
   if url.getLast? =some 44 then
    (if D [] then⟨trimRightB 44 url,[]⟩::gG D n r else gG D n r)
   else
    let d:=bV r
    (if D d.1 then⟨url,d.1⟩::gG D n (d.2.drop 1) else gG D n (d.2.drop 1))
def qG (D:List (List UInt8)→Bool) (l:List UInt8):List AN:=gG D l.length l
def lD (L:List (List UInt8)):Nat:=(L.map fun w=>w.length+1).sum
def KS (c:AN):Nat:=c.url.length+lD c.words
theorem AO (w:List UInt8) (L:List (List UInt8)):lD (w::L)=w.length+1+lD L:=by simp[lD]
theorem bW (f:UInt8→Bool) (l:List UInt8):(l.dropWhile f).length≤l.length:=by have:=jF f l;omega
theorem zC:∀(l:List UInt8) (b:Bool),bZ b l≤l.length:=by
 intro l;induction l with
 |nil=>intro b;cases b<;>simp[bZ]
 |cons c t ih=>
  intro b;cases b with
  |true=>rw[bZ,List.length_cons];have:=ih (c !=41);omega
  |false=>
   rw[bZ,List.length_cons];have h1:=ih true;have h2:=ih false
   repeat' split
   all_goals omega
def CD:List UInt8→Bool
 |[]=>true
 |c::_=>c==44||aI c
theorem J1:∀(l:List UInt8) (b:Bool),CD (l.drop (bZ b l))=true:=by
 intro l;induction l with
 |nil=>intro b;cases b<;>simp[bZ,CD]
 |cons c t ih=>
  intro b;cases b with
  |true=>rw[bZ,Nat.add_comm,List.drop_succ_cons];exact ih _
  |false=>
   rw[bZ];split;·rw[Nat.add_comm,List.drop_succ_cons];exact ih _
   ·split;·rename_i h;exact h
    ·rw[Nat.add_comm,List.drop_succ_cons];exact ih _
theorem Ch:∀(n:Nat) (l:List UInt8),CD l=true→lD (eO n l).1+(eO n l).2.length≤l.length:=by
 intro n;induction n with
 |zero=>intro l _;simp[eO,lD]
 |succ n ih=>
  intro l hs;rw[eO];simp only;have h1:=bW aI l;split;·simp only[lD,List.map_nil,List.sum_nil];omega
  ·rename_i hw;have h2:=ih _ (J1 (l.dropWhile aI) false);have h3:=zC (l.dropWhile aI) false;rw[List.length_drop] at h2;simp only[AO,List.length_take];have h4:(l.dropWhile aI).length+1≤l.length:=by
    cases l with
    |nil=>simp[bZ] at hw
    |cons c t=>
     by_cases hb:aI c=true;·rw[List.dropWhile_cons_of_pos hb,List.length_cons];have:=bW aI t;omega
     ·exfalso;rw[List.dropWhile_cons_of_neg hb] at hw;unfold CD at hs;have hc:(c==44)=true:=by
       rw[Bool.or_eq_true] at hs;rcases hs with hs|hs;·exact hs
       ·exact absurd hs hb
      have Gm:c=44:=by simpa using hc
      apply hw;rw[bZ];subst Gm;rfl
   omega
theorem L8 (q:UInt8) (l:List UInt8):(trimRightB q l).length≤l.length:=by unfold trimRightB;rw[List.length_reverse];have:=bW (· ==q) l.reverse;rw[List.length_reverse] at this;exact this
theorem Ak:∀a:List UInt8,CD (a.dropWhile fun c=> !aI c)=true:=by
 intro a;induction a with
 |nil=>rfl
 |cons c t ih=>
  by_cases hb:aI c=true;·rw[List.dropWhile_cons_of_neg (by simp[hb])];unfold CD;simp[hb]
  ·rw[List.dropWhile_cons_of_pos (by simpa using hb)];exact ih
def oY (L:List AN):Nat:=(L.map KS).sum
theorem Rc (D:List (List UInt8)→Bool):∀(n:Nat) (l:List UInt8),oY (gG D n l)≤l.length:=by
 intro n;induction n with
 |zero=>intro l;simp[gG,oY]
 |succ n ih=>
  intro l;rw[gG];simp only;have h1:=bW (fun c=>c==44||aI c) l;generalize (l.dropWhile fun c=>c==44||aI c)=a at h1⊢;split;·simp[oY]
  ·have h2:=jF (fun c=> !aI c) a;have h3:=Ak a;generalize (a.takeWhile fun c=> !aI c)=url at h2⊢;generalize (a.dropWhile fun c=> !aI c)=r at h2 h3⊢;split
   ·have h4:=ih r;have h5:=L8 44 url;split
    ·unfold oY at*;rw[List.map_cons,List.sum_cons];have:KS ⟨trimRightB 44 url,[]⟩=(trimRightB 44 url).length:=by simp[KS,lD]
     omega
    ·omega
   ·have h4:=ih ((bV r).2.drop 1);have h5:lD (bV r).1+(bV r).2.length≤r.length:=Ch _ r h3;rw[List.length_drop] at h4;split;·unfold oY at*;rw[List.map_cons,List.sum_cons];have:KS ⟨url,(bV r).1⟩=url.length+lD (bV r).1:=rfl;omega
    ·omega
theorem CE (D:List (List UInt8)→Bool) (l:List UInt8):oY (qG D l)≤l.length:=Rc D _ l
def AP (c:UInt8):Option Nat:=
 if 97≤c.toNat∧c.toNat≤122 then some (c.toNat - 97) else if 65≤c.toNat∧c.toNat≤90 then some (c.toNat - 65)
 else if 48≤c.toNat∧c.toNat≤57 then some (c.toNat - 48+26) else none
def wW (j sum weight bJ:Nat):List UInt8→Option (Nat×Nat)
 |[]=>none
 |c::t=>match AP c with
  |none=>none
  |some d=>
   if 2147483647 < sum+d*weight then none
   else if d < dV j bJ then some (sum+d*weight,j+1)
   else wW (j+1) (sum+d*weight) (weight*(36 - dV j bJ)) bJ t
def Ci (s:List UInt8) (bJ:Nat):Option (Nat×Nat):=wW 0 0 1 bJ s
def lJ (c:Nat):Bool:=decide (c≤0x10ffff)&&(decide (c < 0xd800)||decide (0xdfff < c))
def qH:Nat→Nat→Nat→Nat→Bool→List Nat→List UInt8→Option (List Nat)
 |0,_,_,_,_,l,s=>if s=[] then some l else none
 |n+1,p,sign,bJ,first,l,s=>
  if s=[] then some l
  else match Ci s bJ with
   |none=>none
   |some (d,k)=>
    if l.length=255∨lJ (sign+(p+d) / (l.length+1))=false then none
    else qH n ((p+d) % (l.length+1)+1) (sign+(p+d) / (l.length+1)) (tW d (l.length+1) first) false
     (l.take ((p+d) % (l.length+1))++(sign+(p+d) / (l.length+1))::l.drop ((p+d) % (l.length+1))) (s.drop k)
def fQ (s:List UInt8):Option (List Nat):=
 match lC 45 s with
 |some (i+1)=>
  if 255 < i+1∨(s.take (i+1)).any (fun c=>decide (128≤c.toNat))=true then none
  else qH s.length 0 128 72 true ((s.take (i+1)).map UInt8.toNat) (s.drop (i+2))
 |_=>qH s.length 0 128 72 true [] s
theorem Rd:∀(s:List UInt8) (j sum weight bJ d k:Nat),wW j sum weight bJ s=some (d,k)→j < k∧k≤j+s.length∧d≤2147483647:=by
 intro s;induction s with
 |nil=>intro j sum weight bJ d k h;cases h
 |cons c t ih=>
  intro j sum weight bJ d k h;rw[wW] at h;split at h;·cases h
  ·split at h;·cases h
   split at h;·cases h;rw[List.length_cons];omega
   ·obtain⟨h1,h2,h3⟩:=ih _ _ _ _ _ _ h;rw[List.length_cons];omega
theorem KT {s:List UInt8} {bJ d k:Nat} (h:Ci s bJ=some (d,k)):1≤k∧k≤s.length∧d≤2147483647:=by have:=Rd s 0 0 1 bJ d k h;omega
structure fV where
 right:Bool:=false
 url:bD:={}
 words:List (List UInt8):=[]
structure NS where
 xT:List UInt8
 CF:Bool
 url:List UInt8
structure T6 where
 J:Cg
 parts:List UInt8→cU
 Eu:List (List UInt8)→Bool
 Df:List UInt8→Option NS
 agD:bD→Bool
structure T7 (R:T6):Prop where
 join:LZ R.J
 parts:∀s,wV (R.parts s)≤s.length
 Df:∀s r,R.Df s=some r→r.xT.length+r.url.length≤s.length+1
section
variable (R:T6)
def nY (b:bD) (s:List UInt8):fV:=
 match kU R.J b (R.parts s) with
 |none=>{}
 |some u=>{right:=true,url:=u}
def eP (kind:Nat) (b:bD) (s:List UInt8):List fV×List UInt8:=
 if kind=1 then([nY R b s],[])
 else if kind=2 then((qG R.Eu s).map fun c=>{nY R b c.url with words:=c.words},[])
 else if kind=3 then
  match R.Df s with
  |none=>([],[])
  |some r=>if r.CF then([nY R b r.url],r.xT) else([{right:=true,url:=b}],r.xT)
 else([],[])
def ajL (u:bD):Bool:=
 let s:=aQ R.J u true
 s.all (fun c=> !aI c)&&(s !=[])&& !(s.head? ==some 44)&& !(s.getLast? ==some 44)
def tJ (kind:Nat) (l:List fV):List fV:=l.filter fun it=>it.right&&R.agD it.url&&(kind !=2||ajL R it.url)
def Re (it:fV):List UInt8:=aQ R.J it.url true++it.words.flatMap fun w=>32::w
def Cj:List fV→List UInt8
 |[]=>[]
 |it::r=>Re R it++r.flatMap fun x=>[44,32]++Re R x
def U7:List UInt8:=[59,32,117,114,108,61]
def mB (kind:Nat) (l:List fV) (xT:List UInt8):List UInt8:=
 match l with
 |[]=>[]
 |it::_=>if kind=1 then aQ R.J it.url true else if kind=2 then Cj R l else if kind=3 then xT++U7++aQ R.J it.url true else[]
end
section
variable {R:T6} (L:T7 R)
include L in
theorem GZ {b:bD} {s:List UInt8} (hb:b.scheme=aN→b.opaq=false) (h:(nY R b s).right=true):
 dL (aQ R.J (nY R b s).url true)≤5*s.length+dL (aQ R.J b true)+53:=by
 unfold nY at h⊢;split at h;·cases h
 ·rename_i u hu;have h1:=T5 L.join hu hb;have h2:=L.parts s;simp only[hu];omega
theorem X4 (ws:List (List UInt8)):dL (ws.flatMap fun w=>32::w)≤5*lD ws:=by
 induction ws with
 |nil=>simp[eM]
 |cons w ws ih=>
  rw[List.flatMap_cons,cM,lN,AO];have h1:=Er w;have h2:kS 32=1:=by decide
  omega
theorem X5 (it:fV):dL (Re R it)≤dL (aQ R.J it.url true)+5*lD it.words:=by unfold Re;rw[cM];have:=X4 it.words;omega
theorem abS (l:List fV):dL (Cj R l)≤(l.map fun it=>dL (aQ R.J it.url true)+5*lD it.words+2).sum:=by
 cases l with
 |nil=>simp[Cj,eM]
 |cons it r=>
  rw[Cj,cM,List.map_cons,List.sum_cons];have h1:=X5 (R:=R) it;have h2:dL (r.flatMap fun x=>[44,32]++Re R x)≤(r.map fun it=>dL (aQ R.J it.url true)+5*lD it.words+2).sum:=by
   clear h1;induction r with
   |nil=>simp[eM]
   |cons x r ih=>
    rw[List.flatMap_cons,cM,cM,List.map_cons,List.sum_cons];have h3:=X5 (R:=R) x;have h4:dL [44,32]=2:=by decide
    omega
  omega
include L in
theorem agE {b:bD} (hb:b.scheme=aN→b.opaq=false) (cs:List AN):
 ((tJ R 2 (cs.map fun c=>{nY R b c.url with words:=c.words})).map fun it=>dL (aQ R.J it.url true)+5*lD it.words+2).sum
   ≤5*oY cs+cs.length*(dL (aQ R.J b true)+55):=by
 induction cs with
 |nil=>simp[tJ,oY]
 |cons c cs ih=>
  unfold tJ at*;rw[List.map_cons,List.filter_cons];have hc:oY (c::cs)=c.url.length+lD c.words+oY cs:=by simp[oY,KS]
  rw[hc,List.length_cons,Nat.add_mul,Nat.one_mul];split
  ·rename_i hk;rw[List.map_cons,List.sum_cons];rw[Bool.and_eq_true,Bool.and_eq_true] at hk;have h1:=GZ L hb (s:=c.url) hk.1.1;have h2:dL (aQ R.J ({nY R b c.url with words:=c.words}:fV).url true)+5*lD ({nY R b c.url with words:=c.words}:fV).words+2
    =dL (aQ R.J (nY R b c.url).url true)+5*lD c.words+2:=rfl
   rw[h2];omega
  ·omega
include L in
theorem T8 {b:bD} (hb:b.scheme=aN→b.opaq=false) (kind:Nat) (s:List UInt8):
 dL (mB R kind (tJ R kind (eP R kind b s).1) (eP R kind b s).2)≤5*s.length+(eP R kind b s).1.length*(dL (aQ R.J b true)+64):=by
 unfold eP;by_cases h1:kind=1
 ·subst h1;simp only[if_true];unfold tJ;rw[List.filter_cons,List.filter_nil];split;·rename_i hk;rw[Bool.and_eq_true,Bool.and_eq_true] at hk;have:=GZ L hb (s:=s) hk.1.1;simp only[mB,if_true,List.length_cons,List.length_nil];omega
  ·simp[mB,eM]
 rw[if_neg h1];by_cases h2:kind=2
 ·subst h2;simp only[if_true];have h3:=agE L hb (qG R.Eu s);have h4:=CE R.Eu s;rw[List.length_map];have h5:(qG R.Eu s).length*(dL (aQ R.J b true)+55)≤(qG R.Eu s).length*(dL (aQ R.J b true)+64):=Nat.mul_le_mul_left _ (by omega);cases hl:tJ R 2 ((qG R.Eu s).map fun c=>{nY R b c.url with words:=c.words}) with
  |nil=>simp[mB,eM]
  |cons it r=>
   have h6:=abS (R:=R) (it::r);rw[←hl] at h6;have h7:mB R 2 (it::r) []=Cj R (tJ R 2 ((qG R.Eu s).map fun c=>{nY R b c.url with words:=c.words})):=by rw[hl];rfl
   rw[h7];omega
 rw[if_neg h2];by_cases h3:kind=3
 ·subst h3;simp only[if_true];cases hr:R.Df s with
  |none=>simp[tJ,mB,eM]
  |some r=>
   have h4:=L.Df s r hr;have h5:=Er r.xT;have h6:dL U7=6:=by decide
   simp only;by_cases hu:r.CF=true
   ·rw[if_pos hu];unfold tJ;simp only;rw[List.filter_cons,List.filter_nil];split;·rename_i hk;rw[Bool.and_eq_true,Bool.and_eq_true] at hk;have:=GZ L hb (s:=r.url) hk.1.1;simp only[mB,List.length_cons,List.length_nil];rw[if_neg (by omega),if_neg (by omega),if_pos trivial,cM,cM,h6];omega
    ·simp[mB,eM]
   ·rw[if_neg hu];unfold tJ;simp only;rw[List.filter_cons,List.filter_nil];split;·simp only[mB,List.length_cons,List.length_nil];rw[if_neg (by omega),if_neg (by omega),if_pos trivial,cM,cM,h6];omega
    ·simp[mB,eM]
 ·rw[if_neg h3];simp[tJ,mB,eM]
end
section
variable {J:Cg}
theorem BP {u v:bD} {s:List UInt8} (h:tI J u s=some v):v.scheme=u.scheme∧v.opaq=u.opaq:=by
 unfold tI at h;split at h;·cases h
 ·cases h;exact⟨rfl,rfl⟩
theorem NT {u v:bD} {s:List UInt8} (h:qF J u s=some v):v.opaq=u.opaq:=by
 unfold qF at h;simp only at h;split at h;·cases h;rfl
 split at h;·cases h;rfl
 split at h;·cases h
 ·cases h;rfl
theorem Rf {b u:bD} {p:cU} (h:lM J b p=some u):u.opaq=false:=by
 unfold lM at h;simp only at h;split at h;·rw[NT h];rfl
 ·generalize QN:(if(b.scheme==aN)=true then({({bG J aN p with host:={kind:=1}}:bD) with host:=b.host}:bD) else{bG J aN p with host:={kind:=1}})=u0 at h;have a4:u0.opaq=false:=by rw[←QN];split<;>rfl
  clear QN;split at h;·cases h;exact a4
  split at h;·cases h;exact a4
  split at h;·cases h;exact a4
  ·cases h;exact a4
theorem Hs {b u:bD} {p:cU} (h:(if b.opaq then AL J b p else kM J b p)=some u) (hb:b.opaq=false):u.opaq=false:=by
 rw[hb] at h;simp only[Bool.false_eq_true,if_false] at h;unfold kM at h;simp only at h;split at h;·exact(BP h).2
 split at h;·exact(BP h).2
 split at h;·cases h;rfl
 split at h;·cases h;rfl
 ·cases h;rfl
def iL (J:Cg) (p:cU):Option bD:=if p.hasScheme then kU J {} p else none
theorem Rg (hs:J.aV aN=true) {p:cU} {b:bD} (h:iL J p=some b):b.scheme=aN→b.opaq=false:=by
 intro hf;unfold iL at h;split at h
 ·rename_i hp;unfold kU at h;simp only at h;split at h;·exact Rf h
  split at h;·exact(BP h).2
  split at h
  ·rename_i hc;rw[hp] at hc;unfold qE at h;simp only at h;split at h;·exact(BP h).2
   split at h;·cases h;rfl
   ·exfalso;cases h;have:p.scheme=aN:=hf;rw[this,hs] at hc;simp at hc
  ·exact Hs (b:={}) h rfl
 ·cases h
end
end Go.Proofs.YtmgmclkplepapaaGreatDoor
