/- Part of the proof of TopBoundsUptoCardSaid. Conditions: none beyond the statement. -/
import Derived.Test.YtmgmclkplepapaaGreatDoorPt1
set_option linter.all false
set_option maxRecDepth 100000
set_option maxHeartbeats 64000000
namespace Go.Proofs.YtmgmclkplepapaaGreatDoor
def dL (l:List UInt8):Nat:=pO kR l
theorem eM:dL []=0:=rfl
theorem lM (c:UInt8) (l:List UInt8):dL (c::l)=kR c+dL l:=kO _ _ _
theorem cM (a b:List UInt8):dL (a++b)=dL a+dL b:=yV _ _ _
theorem XZ (c:UInt8):1≤kR c:=by unfold kR;split<;>omega
theorem KP (c:UInt8):kR c≤5:=by unfold kR;split<;>omega
theorem Ep (l:List UInt8):dL l≤5*l.length:=Q4 _ 5 l fun c _=>KP c
theorem AL (l:List UInt8):l.length≤dL l:=by
 induction l with
 |nil=>simp[eM]
 |cons c t ih=>rw[lM,List.length_cons];have:=XZ c;omega
def Ai (L:List (List UInt8)):Nat:=dL (L.flatMap fun p=>47::p)
theorem oQ:Ai []=0:=rfl
theorem xN (p:List UInt8) (L:List (List UInt8)):Ai (p::L)=1+dL p+Ai L:=by
 unfold Ai;rw[List.flatMap_cons,cM,lM];have:kR 47=1:=by decide
 omega
theorem Hp (L:List (List UInt8)) (k:Nat):Ai (L.take k)≤Ai L:=by
 induction L generalizing k with
 |nil=>simp
 |cons p L ih=>
  cases k with
  |zero=>simp[oQ]
  |succ k=>rw[List.take_succ_cons,xN,xN];have:=ih k;omega
structure LY (J:Cf):Prop where
 enc:∀k l,dL (J.enc k l)≤5*l.length
 iG:∀s L,Ai (J.iG s L)≤Ai L
 dU:∀s L t,Ai (J.dU s L t)≤Ai L+5*t.length+1
 host:∀s b h,J.Hl s b=some h→dL (J.Ah h)≤5*s.length+41
 none:J.Ah {kind:=1}=[]
 port:∀s t has n,J.uQ s t=some (has,n)→dL (J.itoa n)≤5
def wU (p:cU):Nat:=
 (if p.hasScheme then p.scheme.length+1 else 0)+p.rest.length+(if p.hasQuery then p.query.length+1 else 0)+(if p.hasFrag then p.frag.length+1 else 0)
section
variable {J:Cf} (W:LY J)
theorem Ra (b:Bool) (c:UInt8) (l:List UInt8):dL (if b then[c]++l else[])=if b then kR c+dL l else 0:=by
 cases b with
 |false=>rfl
 |true=>simp only[if_true];rw[cM,lM,eM];omega
def fA (u:bD):Nat:=if u.hasQuery then 1+dL u.query else 0
def kU (u:bD):Nat:=if u.hasFrag then 1+dL u.frag else 0
theorem xO (u:bD):dL (aQ J u true)=dL u.scheme+1+dL (gE J u)+dL (lZ u)+fA u+kU u:=by
 unfold aQ fA kU;rw[cM,cM,cM,cM,cM,Ra,Bool.and_true,Ra,lM,eM];have h1:kR 58=1:=by decide
 have h2:kR 63=1:=by decide
 have h3:kR 35=1:=by decide
 rw[h1,h2,h3]
theorem mI {u:bD} (h:u.opaq=false):dL (lZ u)=Ai u.path:=by unfold lZ Ai;rw[h];rfl
def Dc (u:bD):Nat:=2+dL (xM u)+dL (J.Ah u.host)+(if u.hasPort then 1+dL (J.itoa u.port) else 0)
theorem BN {u:bD} (h:u.host.kind≠0):dL (gE J u)=Dc (J:=J) u:=by
 unfold gE Dc;rw[if_pos h,cM,cM,cM,Ra];have h1:kR 58=1:=by decide
 have h2:dL [47,47]=2:=by decide
 rw[h1,h2]
theorem xP {u:bD} (h:u.host.kind=0):dL (gE J u)≤2:=by
 unfold gE;rw[if_neg (by rw[h];simp)];split;·decide
 ·simp[eM]
theorem LZ (u:bD):dL (gE J u)≤Dc (J:=J) u:=by
 by_cases h:u.host.kind≠0;·rw[BN h];exact Nat.le_refl _
 ·have:=xP (J:=J) (u:=u) (by omega);unfold Dc;omega
theorem Er {u b:bD} (h1:u.user=b.user) (h2:u.pass=b.pass) (h3:u.host=b.host) (h4:u.hasPort=b.hasPort) (h5:u.port=b.port):
 dL (gE J u)≤dL (gE J b)+2:=by
 by_cases h:b.host.kind≠0;·rw[BN h,BN (by rw[h3];exact h)];unfold Dc xM;rw[h1,h2,h3,h4,h5];omega
 ·have:=xP (J:=J) (u:=u) (by rw[h3];omega);omega
theorem agB (u:bD):dL (xM u)≤dL u.user+dL u.pass+2:=by
 unfold xM;have h1:dL [58]=1:=by decide
 have h2:dL [64]=1:=by decide
 split;·simp[eM]
 ·split;·rw[cM,h2];omega
  ·rw[cM,cM,cM,h1,h2];omega
theorem jE (f:UInt8→Bool) (s:List UInt8):(s.takeWhile f).length+(s.dropWhile f).length=s.length:=by have:=congrArg List.length (List.takeWhile_append_dropWhile (p:=f) (l:=s));rw[List.length_append] at this;exact this
theorem X0 (q:UInt8) (s:List UInt8):(Eo q s).1.length+(Eo q s).2.length≤s.length:=by unfold Eo;have:=jE (· !=q) s;simp only[List.length_drop];omega
theorem KQ (sp:Bool) (s:List UInt8):(dN sp s).1.length+(dN sp s).2.length=s.length:=by unfold dN;exact jE (fun c=> !fR sp c) s
include W in
theorem Fw {scheme user pass s:List UInt8} {a:AH} (h:dX J scheme user pass s=some a):
 a.user=user∧a.pass=pass∧dL (J.Ah a.host)≤5*s.length+41∧dL (J.itoa a.port)≤5:=by
 unfold dX at h;split at h;·cases h
 ·split at h;·cases h
  ·rename_i x hx;split at h;·cases h
   ·rename_i has n hp;cases h;have h1:=W.host _ _ _ hx;have h2:=W.port _ _ _ _ hp;rw[List.length_take] at h1;exact⟨rfl,rfl,by show dL (J.Ah x)≤_;omega,h2⟩
 ·split at h;·cases h
  ·rename_i x hx;split at h;·cases h
   ·rename_i has n hp;cases h;exact⟨rfl,rfl,W.host _ _ _ hx,W.port _ _ _ _ hp⟩
include W in
theorem U4 {scheme s:List UInt8} {a:AH} (h:fI J scheme s=some a):
 dL a.user+dL a.pass+dL (J.Ah a.host)≤5*s.length+41∧dL (J.itoa a.port)≤5:=by
 unfold fI at h;split at h
 ·rename_i k hk;split at h;·cases h
  ·obtain⟨h1,h2,h3,h4⟩:=Fw W h;have e1:=W.enc 5 (Eo 58 (s.take k)).1;have e2:=W.enc 5 (Eo 58 (s.take k)).2;have e3:=X0 58 (s.take k);rw[List.length_take] at e3;rw[List.length_drop] at h3;rw[h1,h2];exact⟨by omega,h4⟩
 ·obtain⟨h1,h2,h3,h4⟩:=Fw W h;rw[h1,h2,eM];exact⟨by omega,h4⟩
include W in
theorem Es (scheme s:List UInt8):Ai (oP J scheme s)≤5*s.length+1:=by
 unfold oP;have:=W.dU scheme [] (if 0 < cV J scheme s then s.drop 1 else s);rw[oQ] at this;have h2:(if 0 < cV J scheme s then s.drop 1 else s).length≤s.length:=by
  split;·rw[List.length_drop];omega
  ·omega
 omega
include W in
theorem L5 {u v:bD} {s:List UInt8} (h:tH J u s=some v) (ho:u.opaq=false) (hp:u.path=[]):
 v.scheme=u.scheme∧fA v=fA u∧kU v=kU u∧dL (gE J v)+dL (lZ v)≤5*s.length+52:=by
 unfold tH at h;split at h;·cases h
 ·rename_i a ha;cases h;obtain⟨h1,h2⟩:=U4 W ha;refine⟨rfl,rfl,rfl,?_⟩;generalize hv:Ho u a (Db J u s)=v;have e1:v.user=a.user:=by rw[←hv];rfl
  have e2:v.pass=a.pass:=by rw[←hv];rfl
  have e3:v.host=a.host:=by rw[←hv];rfl
  have e4:v.port=a.port:=by rw[←hv];rfl
  have e5:v.opaq=false:=by rw[←hv];exact ho
  have e6:Ai v.path≤5*(dN (J.aV u.scheme) s).2.length+1:=by
   rw[←hv];show Ai (Db J u s)≤_;unfold Db;split;·exact Es W _ _
   ·rw[hp,oQ];omega
  have e7:=KQ (J.aV u.scheme) s;have e8:=LZ (J:=J) v;have e9:=agB v;rw[mI e5];unfold Dc at e8;rw[e1,e2] at e9;rw[e3,e4] at e8;have e10:(if v.hasPort then 1+dL (J.itoa a.port) else 0)≤6:=by split<;>omega
  omega
include W in
theorem Dd (scheme:List UInt8) (p:cU):fA (bG J scheme p)≤5*(if p.hasQuery then p.query.length+1 else 0)∧kU (bG J scheme p)≤5*(if p.hasFrag then p.frag.length+1 else 0):=by
 have h1:=W.enc (if J.aV scheme then 3 else 2) p.query;have h2:=W.enc 1 p.frag;unfold fA kU bG;constructor;·show(if p.hasQuery=true then 1+dL (J.enc (if J.aV scheme then 3 else 2) p.query) else 0)≤_;split<;>omega
 ·show(if p.hasFrag=true then 1+dL (J.enc 1 p.frag) else 0)≤_;split<;>omega
include W in
theorem xQ {u:bD} {sc:List UInt8} {L:List (List UInt8)} {t:List UInt8} (ho:u.opaq=false) (hp:u.path=J.dU sc L t):dL (lZ u)≤Ai L+5*t.length+1:=by rw[mI ho,hp];exact W.dU sc L t
def NP (p:cU):Nat:=if p.hasQuery then p.query.length+1 else 0
def Hq (p:cU):Nat:=if p.hasFrag then p.frag.length+1 else 0
def Fx (p:cU):Nat:=if p.hasScheme then p.scheme.length+1 else 0
theorem xR (p:cU):wU p=Fx p+p.rest.length+NP p+Hq p:=rfl
theorem L6 {u:bD} {n:Nat} (h:dL u.scheme+1+dL (gE J u)+dL (lZ u)+fA u+kU u≤n):dL (aQ J u true)≤n:=by rw[xO];exact h
include W in
theorem X1 {p:cU} {u:bD} (h:qD J p=some u) (hs:p.hasScheme=true):dL (aQ J u true)≤5*wU p+53:=by
 have tG:=Dd W p.scheme p;have abO:=Ep p.scheme;have hc:Fx p=p.scheme.length+1:=by unfold Fx;rw[if_pos hs]
 apply L6;rw[xR];unfold NP Hq;unfold qD at h;simp only at h;split at h;·obtain⟨h1,h2,h3,h4⟩:=L5 W h rfl rfl;rw[h1,h2,h3];rw[List.length_drop] at h4;have:dL (bG J p.scheme p).scheme=dL p.scheme:=rfl;omega
 ·split at h;·cases h;have h4:=xQ W (u:={bG J p.scheme p with path:=J.dU p.scheme [] (p.rest.drop 1)}) (sc:=p.scheme) (L:=[]) (t:=p.rest.drop 1) rfl rfl;have h5:=xP (J:=J) (u:={bG J p.scheme p with path:=J.dU p.scheme [] (p.rest.drop 1)}) rfl;rw[oQ,List.length_drop] at h4;show dL p.scheme+1+dL (gE J {bG J p.scheme p with path:=J.dU p.scheme [] (p.rest.drop 1)})+dL (lZ {bG J p.scheme p with path:=J.dU p.scheme [] (p.rest.drop 1)})+fA (bG J p.scheme p)+kU (bG J p.scheme p)≤_;omega
  ·cases h;have h5:=xP (J:=J) (u:={bG J p.scheme p with opaq:=true,flat:=rS p (J.enc 0 p.rest)}) rfl;have h6:dL (rS p (J.enc 0 p.rest))≤dL (J.enc 0 p.rest)+3:=by
    unfold rS;split
    ·rw[cM];have:dL [37,50,48]=3:=by decide
     have h7:dL (J.enc 0 p.rest).dropLast≤dL (J.enc 0 p.rest):=by rw[List.dropLast_eq_take];have:=Cd kR (J.enc 0 p.rest) ((J.enc 0 p.rest).length - 1);unfold dL;omega
     omega
    ·omega
   have h8:=W.enc 0 p.rest;show dL p.scheme+1+dL (gE J {bG J p.scheme p with opaq:=true,flat:=rS p (J.enc 0 p.rest)})+dL (rS p (J.enc 0 p.rest))+fA (bG J p.scheme p)+kU (bG J p.scheme p)≤_;omega
include W in
theorem abP {b u:bD} {p:cU} (h:AK J b p=some u):dL (aQ J u true)≤5*wU p+dL (aQ J b true):=by
 unfold AK at h;split at h;·cases h
 ·rename_i hn;cases h;have hf:p.hasFrag=true:=by
   cases hh:p.hasFrag with
   |true=>rfl
   |false=>exact absurd (.inl hh) hn
  have:=W.enc 1 p.frag;rw[xO,xO,xR];have h1:Hq p=p.frag.length+1:=by unfold Hq;rw[if_pos hf]
  show dL b.scheme+1+dL (gE J b)+dL (lZ b)+fA b+(1+dL (J.enc 1 p.frag))≤_;omega
include W in
theorem NQ {b u:bD} {p:cU} (h:kL J b p=some u) (ho:b.opaq=false):dL (aQ J u true)≤5*wU p+dL (aQ J b true)+53:=by
 have tG:=Dd W b.scheme p;have hb:=xO (J:=J) b;have U5:=mI ho;apply L6;rw[xR];unfold NP Hq;unfold kL at h;simp only at h;have ajJ:(bG J b.scheme p).scheme=b.scheme:=rfl;split at h;·obtain⟨h1,h2,h3,h4⟩:=L5 W h rfl rfl;rw[h1,h2,h3,ajJ];unfold fD at h4;rw[List.length_drop] at h4;omega
 split at h;·obtain⟨h1,h2,h3,h4⟩:=L5 W h rfl rfl;rw[h1,h2,h3,ajJ];rw[List.length_drop] at h4;omega
 split at h
 ·cases h;generalize hu:({lK (bG J b.scheme p) b with path:=J.dU (bG J b.scheme p).scheme [] (p.rest.drop 1)}:bD)=u;have e1:dL (gE J u)≤dL (gE J b)+2:=by subst hu;exact Er rfl rfl rfl rfl rfl
  have e2:=xQ W (u:=u) (sc:=b.scheme) (L:=[]) (t:=p.rest.drop 1) (by subst hu;rfl) (by subst hu;rfl);have e3:u.scheme=b.scheme:=by subst hu;rfl
  have e4:fA u=fA (bG J b.scheme p):=by subst hu;rfl
  have e5:kU u=kU (bG J b.scheme p):=by subst hu;rfl
  rw[oQ,List.length_drop] at e2;rw[e3,e4,e5];omega
 split at h
 ·cases h;generalize hu:nC (lK (bG J b.scheme p) b) b=u;have e1:dL (gE J u)≤dL (gE J b)+2:=by subst hu;exact Er rfl rfl rfl rfl rfl
  have e2:dL (lZ u)=Ai b.path:=by subst hu;exact mI rfl
  have e3:u.scheme=b.scheme:=by subst hu;rfl
  have e4:fA u≤fA (bG J b.scheme p)+fA b:=by subst hu;unfold fA nC lK;simp only;cases (bG J b.scheme p).hasQuery<;>simp
  have e5:kU u=kU (bG J b.scheme p):=by subst hu;rfl
  rw[e3,e5];omega
 ·cases h;generalize hu:({lK (bG J b.scheme p) b with path:=J.dU (bG J b.scheme p).scheme (J.iG (bG J b.scheme p).scheme b.path) p.rest}:bD)=u;have e1:dL (gE J u)≤dL (gE J b)+2:=by subst hu;exact Er rfl rfl rfl rfl rfl
  have e2:=xQ W (u:=u) (sc:=b.scheme) (L:=J.iG b.scheme b.path) (t:=p.rest) (by subst hu;rfl) (by subst hu;rfl);have e3:u.scheme=b.scheme:=by subst hu;rfl
  have e4:fA u=fA (bG J b.scheme p):=by subst hu;rfl
  have e5:kU u=kU (bG J b.scheme p):=by subst hu;rfl
  have e6:=W.iG b.scheme b.path;rw[e3,e4,e5];omega
include W in
theorem X2 {u v:bD} {s:List UInt8} (h:qE J u s=some v) (ho:u.opaq=false) (hu1:u.user=[]) (hu2:u.pass=[]) (hu3:u.hasPort=false) (hk:u.host={kind:=1}):
 v.scheme=u.scheme∧fA v=fA u∧kU v=kU u∧dL (gE J v)+dL (lZ v)≤5*s.length+44:=by
 have hw:∀x:lJ,∀path,dL (gE J {u with host:=x,path:=path})≤2+dL (J.Ah x):=by intro x path;refine Nat.le_trans (LZ (J:=J) _) ?_;unfold Dc xM;show 2+dL (if u.user=[]∧u.pass=[] then _ else _)+dL (J.Ah x)+(if u.hasPort then _ else 0)≤_;rw[if_pos ⟨hu1,hu2⟩,hu3,eM];simp
 have hw0:∀path,dL (gE J {u with path:=path})≤2:=by
  intro path;have h1:=hw {kind:=1} path;rw[W.none,eM] at h1;have h2:({u with host:={kind:=1},path:=path}:bD)={u with path:=path}:=by rw[←hk]
  rw[h2] at h1;exact h1
 have hp:∀(x:lJ) (L:List (List UInt8)),dL (lZ {u with host:=x,path:=L})=Ai L:=fun x L=>mI ho;have XE:∀(L:List (List UInt8)),dL (lZ {u with path:=L})=Ai L:=fun L=>mI ho;have hc:=KQ true s;unfold qE at h;simp only at h;split at h;·cases h;refine⟨rfl,rfl,rfl,?_⟩;have h1:=W.dU u.scheme [] s;have h2:=hw0 (J.dU u.scheme [] s);rw[XE];rw[oQ] at h1;omega
 split at h;·cases h;refine⟨rfl,rfl,rfl,?_⟩;have h1:=Es W u.scheme (dN true s).2;have h2:=hw0 (oP J u.scheme (dN true s).2);rw[XE];omega
 split at h;·cases h
 ·rename_i x hx;cases h;refine⟨rfl,rfl,rfl,?_⟩;have h1:=Es W u.scheme (dN true s).2;have h3:=W.host _ _ _ hx;rw[hp];by_cases hl:x.kind≠2∨x.name≠Hm;·rw[if_pos hl];have h2:=hw x (oP J u.scheme (dN true s).2);omega
  ·rw[if_neg hl];have h2:=hw u.host (oP J u.scheme (dN true s).2);have h4:dL (J.Ah u.host)=0:=by rw[hk,W.none];rfl
   omega
include W in
theorem abQ {b u:bD} {p:cU} (h:lL J b p=some u) (hb:b.scheme=aN→b.opaq=false)
 (hs:(p.hasScheme=true∧p.scheme=aN)∨b.scheme=aN):dL (aQ J u true)≤5*wU p+dL (aQ J b true)+53:=by
 have tG:=Dd W aN p;have dB:=xO (J:=J) b;have abO:dL aN≤5*Fx p+dL b.scheme:=by
  rcases hs with⟨h1,h2⟩|h1
  ·have:dL aN=4:=by decide
   have:Fx p=p.scheme.length+1:=by unfold Fx;rw[if_pos h1]
   have:p.scheme.length=4:=by rw[h2];rfl
   omega
  ·rw[h1];omega
 apply L6;rw[xR];unfold NP Hq;unfold lL at h;simp only at h;split at h;·obtain⟨h1,h2,h3,h4⟩:=X2 W h rfl rfl rfl rfl rfl;have e1:fA ({bG J aN p with host:={kind:=1}}:bD)=fA (bG J aN p):=rfl;have e2:kU ({bG J aN p with host:={kind:=1}}:bD)=kU (bG J aN p):=rfl;have e3:({bG J aN p with host:={kind:=1}}:bD).scheme=aN:=rfl;rw[h1,h2,h3,e1,e2,e3];rw[List.length_drop] at h4;omega
 ·generalize QL:(if(b.scheme==aN)=true then({({bG J aN p with host:={kind:=1}}:bD) with host:=b.host}:bD) else{bG J aN p with host:={kind:=1}})=u0 at h;have a1:u0.scheme=aN:=by rw[←QL];split<;>rfl
  have a2:fA u0=fA (bG J aN p):=by rw[←QL];split<;>rfl
  have a3:kU u0=kU (bG J aN p):=by rw[←QL];split<;>rfl
  have a4:u0.opaq=false:=by rw[←QL];split<;>rfl
  have a6:u0.host=if(b.scheme==aN)=true then b.host else{kind:=1}:=by rw[←QL];split<;>rfl
  have a7:u0.user=[]∧u0.pass=[]∧u0.hasPort=false:=by rw[←QL];split<;>exact⟨rfl,rfl,rfl⟩
  clear QL;have a5:∀v:bD,v.host=u0.host→v.user=u0.user→v.pass=u0.pass→v.hasPort=u0.hasPort→dL (gE J v)≤dL (gE J b)+2:=by
   intro v h1 h2 h3 h4;rw[a7.1] at h2;rw[a7.2.1] at h3;rw[a7.2.2] at h4;rw[a6] at h1;have hv:=LZ (J:=J) v;have hw:dL (xM v)=0:=by unfold xM;rw[if_pos ⟨h2,h3⟩];rfl
   by_cases hf:(b.scheme==aN)=true
   ·rw[if_pos hf] at h1;by_cases hk:b.host.kind≠0;·rw[BN hk];unfold Dc at hv⊢;rw[hw,h4,h1] at hv;simp only[Bool.false_eq_true,if_false] at hv;omega
    ·have:=xP (J:=J) (u:=v) (by rw[h1];omega);omega
   ·rw[if_neg hf] at h1;unfold Dc at hv;rw[hw,h4,h1,W.none,eM] at hv;simp only[Bool.false_eq_true,if_false] at hv;omega
  have hfo:∀X:Bool,(b.scheme==aN&&X)=true→dL (lZ b)=Ai b.path:=fun X hX=>by rw[Bool.and_eq_true] at hX;exact mI (hb (by simpa using hX.1))
  split at h
  ·generalize hL:(if((b.scheme==aN)&&LX J b.path&& !J.AJ (p.rest.drop 1))=true then b.path.take 1 else[])=L at h;cases h;generalize hu:({u0 with path:=J.dU aN L (p.rest.drop 1)}:bD)=u;have e1:=a5 u (by subst hu;rfl) (by subst hu;rfl) (by subst hu;rfl) (by subst hu;rfl);have e2:=xQ W (u:=u) (sc:=aN) (L:=L) (t:=p.rest.drop 1) (by subst hu;exact a4) (by subst hu;rfl);have e3:u.scheme=aN:=by subst hu;exact a1
   have e4:fA u=fA (bG J aN p):=by rw[←a2];subst hu;rfl
   have e5:kU u=kU (bG J aN p):=by rw[←a3];subst hu;rfl
   have e6:Ai L≤dL (lZ b):=by
    rw[←hL];split;·rename_i hc;rw[Bool.and_assoc] at hc;rw[hfo _ hc];exact Hp _ _
    ·rw[oQ];omega
   rw[List.length_drop] at e2;rw[e3,e4,e5];omega
  split at h
  ·rename_i hc;cases h;generalize hu:nC u0 b=u;have e1:=a5 u (by subst hu;rfl) (by subst hu;rfl) (by subst hu;rfl) (by subst hu;rfl);have e2:dL (lZ u)=Ai b.path:=by subst hu;exact mI a4
   have e3:u.scheme=aN:=by subst hu;exact a1
   have e4:fA u≤fA (bG J aN p)+fA b:=by rw[←a2];subst hu;unfold fA nC;simp only;cases u0.hasQuery<;>simp
   have e5:kU u=kU (bG J aN p):=by rw[←a3];subst hu;rfl
   have e6:=hfo _ hc;rw[e3,e5];omega
  split at h
  ·rename_i hc;cases h;generalize hu:({u0 with path:=J.dU aN (J.iG aN b.path) p.rest}:bD)=u;have e1:=a5 u (by subst hu;rfl) (by subst hu;rfl) (by subst hu;rfl) (by subst hu;rfl);have e2:=xQ W (u:=u) (sc:=aN) (L:=J.iG aN b.path) (t:=p.rest) (by subst hu;exact a4) (by subst hu;rfl);have e3:u.scheme=aN:=by subst hu;exact a1
   have e4:fA u=fA (bG J aN p):=by rw[←a2];subst hu;rfl
   have e5:kU u=kU (bG J aN p):=by rw[←a3];subst hu;rfl
   have e6:=hfo _ hc;have e7:=W.iG aN b.path;rw[e3,e4,e5];omega
  ·cases h;generalize hu:({u0 with path:=J.dU aN [] p.rest}:bD)=u;have e1:=a5 u (by subst hu;rfl) (by subst hu;rfl) (by subst hu;rfl) (by subst hu;rfl);have e2:=xQ W (u:=u) (sc:=aN) (L:=[]) (t:=p.rest) (by subst hu;exact a4) (by subst hu;rfl);have e3:u.scheme=aN:=by subst hu;exact a1
   have e4:fA u=fA (bG J aN p):=by rw[←a2];subst hu;rfl
   have e5:kU u=kU (bG J aN p):=by rw[←a3];subst hu;rfl
   rw[oQ] at e2;rw[e3,e4,e5];omega
include W in
theorem T4 {b u:bD} {p:cU} (h:kS J b p=some u) (hb:b.scheme=aN→b.opaq=false):dL (aQ J u true)≤5*wU p+dL (aQ J b true)+53:=by
 unfold kS at h;simp only at h;split at h
 ·rename_i hc;refine abQ W h hb ?_;rw[Bool.or_eq_true,Bool.and_eq_true,Bool.and_eq_true,Bool.and_eq_true] at hc;rcases hc with⟨h1,h2⟩|⟨_,h2⟩;·exact .inl ⟨h1,by simpa using h2⟩
  ·exact .inr (by simpa using h2)
 split at h
 ·rename_i hc;rw[Bool.and_eq_true,Bool.and_eq_true] at hc;have tG:=Dd W p.scheme p;have abO:=Ep p.scheme;have AA:Fx p=p.scheme.length+1:=by unfold Fx;rw[if_pos hc.1.1]
  obtain⟨h1,h2,h3,h4⟩:=L5 W h rfl rfl;have e3:(bG J p.scheme p).scheme=p.scheme:=rfl;unfold fD at h4;rw[List.length_drop] at h4;apply L6;rw[xR];unfold NP Hq;rw[h1,h2,h3,e3];omega
 split at h;·rename_i hc;rw[Bool.and_eq_true] at hc;have:=X1 W h hc.1;omega
 split at h;·have:=abP W h;omega
 ·rename_i ho;exact NQ W h (by simpa using ho)
end
def aI (c:UInt8):Bool:=c==9||c==10||c==12||c==13||c==32
def bZ:Bool→List UInt8→Nat
 |_,[]=>0
 |true,c::t=>1+bZ (c !=41) t
 |false,c::t=>if c==40 then 1+bZ true t else if c==44||aI c then 0 else 1+bZ false t
def eO:Nat→List UInt8→List (List UInt8)×List UInt8
 |0,l=>([],l)
 |n+1,l=>
  let r:=l.dropWhile aI
  if bZ false r=0 then([],r)
  else let d:=eO n (r.drop (bZ false r))
       (r.take (bZ false r)::d.1,d.2)
def bV (l:List UInt8):List (List UInt8)×List UInt8:=eO l.length l
def trimRightB (q:UInt8) (l:List UInt8):List UInt8:=(l.reverse.dropWhile (· ==q)).reverse
structure AM where
 url:List UInt8
 words:List (List UInt8)
def gG (D:List (List UInt8)→Bool):Nat→List UInt8→List AM
 |0,_=>[]
 |n+1,l=>
  let a:=l.dropWhile fun c=>c==44||aI c
  if a=[] then[]
  else
   let url:=a.takeWhile fun c=> !aI c;let r:=a.dropWhile fun c=> !aI c
   if url.getLast? =some 44 then
    (if D [] then⟨trimRightB 44 url,[]⟩::gG D n r else gG D n r)
   else
    let d:=bV r
    (if D d.1 then⟨url,d.1⟩::gG D n (d.2.drop 1) else gG D n (d.2.drop 1))
def qF (D:List (List UInt8)→Bool) (l:List UInt8):List AM:=gG D l.length l
def lC (L:List (List UInt8)):Nat:=(L.map fun w=>w.length+1).sum
def KR (c:AM):Nat:=c.url.length+lC c.words
theorem AN (w:List UInt8) (L:List (List UInt8)):lC (w::L)=w.length+1+lC L:=by simp[lC]
theorem bW (f:UInt8→Bool) (l:List UInt8):(l.dropWhile f).length≤l.length:=by have:=jE f l;omega
theorem zB:∀(l:List UInt8) (b:Bool),bZ b l≤l.length:=by
 intro l;induction l with
 |nil=>intro b;cases b<;>simp[bZ]
 |cons c t ih=>
  intro b;cases b with
  |true=>rw[bZ,List.length_cons];have:=ih (c !=41);omega
  |false=>
   rw[bZ,List.length_cons];have h1:=ih true;have h2:=ih false
   repeat' split
   all_goals omega
def CC:List UInt8→Bool
 |[]=>true
 |c::_=>c==44||aI c
theorem JZ:∀(l:List UInt8) (b:Bool),CC (l.drop (bZ b l))=true:=by
 intro l;induction l with
 |nil=>intro b;cases b<;>simp[bZ,CC]
 |cons c t ih=>
  intro b;cases b with
  |true=>rw[bZ,Nat.add_comm,List.drop_succ_cons];exact ih _
  |false=>
   rw[bZ];split;·rw[Nat.add_comm,List.drop_succ_cons];exact ih _
   ·split;·rename_i h;exact h
    ·rw[Nat.add_comm,List.drop_succ_cons];exact ih _
theorem Cg:∀(n:Nat) (l:List UInt8),CC l=true→lC (eO n l).1+(eO n l).2.length≤l.length:=by
 intro n;induction n with
 |zero=>intro l _;simp[eO,lC]
 |succ n ih=>
  intro l hs;rw[eO];simp only;have h1:=bW aI l;split;·simp only[lC,List.map_nil,List.sum_nil];omega
  ·rename_i hw;have h2:=ih _ (JZ (l.dropWhile aI) false);have h3:=zB (l.dropWhile aI) false;rw[List.length_drop] at h2;simp only[AN,List.length_take];have h4:(l.dropWhile aI).length+1≤l.length:=by
    cases l with
    |nil=>simp[bZ] at hw
    |cons c t=>
     by_cases hb:aI c=true;·rw[List.dropWhile_cons_of_pos hb,List.length_cons];have:=bW aI t;omega
     ·exfalso;rw[List.dropWhile_cons_of_neg hb] at hw;unfold CC at hs;have hc:(c==44)=true:=by
       rw[Bool.or_eq_true] at hs;rcases hs with hs|hs;·exact hs
       ·exact absurd hs hb
      have Gl:c=44:=by simpa using hc
      apply hw;rw[bZ];subst Gl;rfl
   omega
theorem L7 (q:UInt8) (l:List UInt8):(trimRightB q l).length≤l.length:=by unfold trimRightB;rw[List.length_reverse];have:=bW (· ==q) l.reverse;rw[List.length_reverse] at this;exact this
theorem Aj:∀a:List UInt8,CC (a.dropWhile fun c=> !aI c)=true:=by
 intro a;induction a with
 |nil=>rfl
 |cons c t ih=>
  by_cases hb:aI c=true;·rw[List.dropWhile_cons_of_neg (by simp[hb])];unfold CC;simp[hb]
  ·rw[List.dropWhile_cons_of_pos (by simpa using hb)];exact ih
def oX (L:List AM):Nat:=(L.map KR).sum
theorem Rb (D:List (List UInt8)→Bool):∀(n:Nat) (l:List UInt8),oX (gG D n l)≤l.length:=by
 intro n;induction n with
 |zero=>intro l;simp[gG,oX]
 |succ n ih=>
  intro l;rw[gG];simp only;have h1:=bW (fun c=>c==44||aI c) l;generalize (l.dropWhile fun c=>c==44||aI c)=a at h1⊢;split;·simp[oX]
  ·have h2:=jE (fun c=> !aI c) a;have h3:=Aj a;generalize (a.takeWhile fun c=> !aI c)=url at h2⊢;generalize (a.dropWhile fun c=> !aI c)=r at h2 h3⊢;split
   ·have h4:=ih r;have h5:=L7 44 url;split
    ·unfold oX at*;rw[List.map_cons,List.sum_cons];have:KR ⟨trimRightB 44 url,[]⟩=(trimRightB 44 url).length:=by simp[KR,lC]
     omega
    ·omega
   ·have h4:=ih ((bV r).2.drop 1);have h5:lC (bV r).1+(bV r).2.length≤r.length:=Cg _ r h3;rw[List.length_drop] at h4;split;·unfold oX at*;rw[List.map_cons,List.sum_cons];have:KR ⟨url,(bV r).1⟩=url.length+lC (bV r).1:=rfl;omega
    ·omega
theorem CD (D:List (List UInt8)→Bool) (l:List UInt8):oX (qF D l)≤l.length:=Rb D _ l
def AO (c:UInt8):Option Nat:=
 if 97≤c.toNat∧c.toNat≤122 then some (c.toNat - 97) else if 65≤c.toNat∧c.toNat≤90 then some (c.toNat - 65)
 else if 48≤c.toNat∧c.toNat≤57 then some (c.toNat - 48+26) else none
def wV (j sum weight bJ:Nat):List UInt8→Option (Nat×Nat)
 |[]=>none
 |c::t=>match AO c with
  |none=>none
  |some d=>
   if 2147483647 < sum+d*weight then none
   else if d < dV j bJ then some (sum+d*weight,j+1)
   else wV (j+1) (sum+d*weight) (weight*(36 - dV j bJ)) bJ t
def Ch (s:List UInt8) (bJ:Nat):Option (Nat×Nat):=wV 0 0 1 bJ s
def lI (c:Nat):Bool:=decide (c≤0x10ffff)&&(decide (c < 0xd800)||decide (0xdfff < c))
def qG:Nat→Nat→Nat→Nat→Bool→List Nat→List UInt8→Option (List Nat)
 |0,_,_,_,_,l,s=>if s=[] then some l else none
 |n+1,p,sign,bJ,first,l,s=>
  if s=[] then some l
  else match Ch s bJ with
   |none=>none
   |some (d,k)=>
    if l.length=255∨lI (sign+(p+d) / (l.length+1))=false then none
    else qG n ((p+d) % (l.length+1)+1) (sign+(p+d) / (l.length+1)) (tV d (l.length+1) first) false
     (l.take ((p+d) % (l.length+1))++(sign+(p+d) / (l.length+1))::l.drop ((p+d) % (l.length+1))) (s.drop k)
def fQ (s:List UInt8):Option (List Nat):=
 match lB 45 s with
 |some (i+1)=>
  if 255 < i+1∨(s.take (i+1)).any (fun c=>decide (128≤c.toNat))=true then none
  else qG s.length 0 128 72 true ((s.take (i+1)).map UInt8.toNat) (s.drop (i+2))
 |_=>qG s.length 0 128 72 true [] s
theorem Rc:∀(s:List UInt8) (j sum weight bJ d k:Nat),wV j sum weight bJ s=some (d,k)→j < k∧k≤j+s.length∧d≤2147483647:=by
 intro s;induction s with
 |nil=>intro j sum weight bJ d k h;cases h
 |cons c t ih=>
  intro j sum weight bJ d k h;rw[wV] at h;split at h;·cases h
  ·split at h;·cases h
   split at h;·cases h;rw[List.length_cons];omega
   ·obtain⟨h1,h2,h3⟩:=ih _ _ _ _ _ _ h;rw[List.length_cons];omega
theorem KS {s:List UInt8} {bJ d k:Nat} (h:Ch s bJ=some (d,k)):1≤k∧k≤s.length∧d≤2147483647:=by have:=Rc s 0 0 1 bJ d k h;omega
structure fV where
 right:Bool:=false
 url:bD:={}
 words:List (List UInt8):=[]
structure NR where
 xS:List UInt8
 CE:Bool
 url:List UInt8
structure T5 where
 J:Cf
 parts:List UInt8→cU
 Et:List (List UInt8)→Bool
 De:List UInt8→Option NR
 agC:bD→Bool
structure T6 (R:T5):Prop where
 join:LY R.J
 parts:∀s,wU (R.parts s)≤s.length
 De:∀s r,R.De s=some r→r.xS.length+r.url.length≤s.length+1
section
variable (R:T5)
def nX (b:bD) (s:List UInt8):fV:=
 match kS R.J b (R.parts s) with
 |none=>{}
 |some u=>{right:=true,url:=u}
def eP (kind:Nat) (b:bD) (s:List UInt8):List fV×List UInt8:=
 if kind=1 then([nX R b s],[])
 else if kind=2 then((qF R.Et s).map fun c=>{nX R b c.url with words:=c.words},[])
 else if kind=3 then
  match R.De s with
  |none=>([],[])
  |some r=>if r.CE then([nX R b r.url],r.xS) else([{right:=true,url:=b}],r.xS)
 else([],[])
def ajK (u:bD):Bool:=
 let s:=aQ R.J u true
 s.all (fun c=> !aI c)&&(s !=[])&& !(s.head? ==some 44)&& !(s.getLast? ==some 44)
def tI (kind:Nat) (l:List fV):List fV:=l.filter fun it=>it.right&&R.agC it.url&&(kind !=2||ajK R it.url)
def Rd (it:fV):List UInt8:=aQ R.J it.url true++it.words.flatMap fun w=>32::w
def Ci:List fV→List UInt8
 |[]=>[]
 |it::r=>Rd R it++r.flatMap fun x=>[44,32]++Rd R x
def U6:List UInt8:=[59,32,117,114,108,61]
def mA (kind:Nat) (l:List fV) (xS:List UInt8):List UInt8:=
 match l with
 |[]=>[]
 |it::_=>if kind=1 then aQ R.J it.url true else if kind=2 then Ci R l else if kind=3 then xS++U6++aQ R.J it.url true else[]
end
section
variable {R:T5} (L:T6 R)
include L in
theorem GY {b:bD} {s:List UInt8} (hb:b.scheme=aN→b.opaq=false) (h:(nX R b s).right=true):
 dL (aQ R.J (nX R b s).url true)≤5*s.length+dL (aQ R.J b true)+53:=by
 unfold nX at h⊢;split at h;·cases h
 ·rename_i u hu;have h1:=T4 L.join hu hb;have h2:=L.parts s;simp only[hu];omega
theorem X3 (ws:List (List UInt8)):dL (ws.flatMap fun w=>32::w)≤5*lC ws:=by
 induction ws with
 |nil=>simp[eM]
 |cons w ws ih=>
  rw[List.flatMap_cons,cM,lM,AN];have h1:=Ep w;have h2:kR 32=1:=by decide
  omega
theorem X4 (it:fV):dL (Rd R it)≤dL (aQ R.J it.url true)+5*lC it.words:=by unfold Rd;rw[cM];have:=X3 it.words;omega
theorem abR (l:List fV):dL (Ci R l)≤(l.map fun it=>dL (aQ R.J it.url true)+5*lC it.words+2).sum:=by
 cases l with
 |nil=>simp[Ci,eM]
 |cons it r=>
  rw[Ci,cM,List.map_cons,List.sum_cons];have h1:=X4 (R:=R) it;have h2:dL (r.flatMap fun x=>[44,32]++Rd R x)≤(r.map fun it=>dL (aQ R.J it.url true)+5*lC it.words+2).sum:=by
   clear h1;induction r with
   |nil=>simp[eM]
   |cons x r ih=>
    rw[List.flatMap_cons,cM,cM,List.map_cons,List.sum_cons];have h3:=X4 (R:=R) x;have h4:dL [44,32]=2:=by decide
    omega
  omega
include L in
theorem agD {b:bD} (hb:b.scheme=aN→b.opaq=false) (cs:List AM):
 ((tI R 2 (cs.map fun c=>{nX R b c.url with words:=c.words})).map fun it=>dL (aQ R.J it.url true)+5*lC it.words+2).sum
   ≤5*oX cs+cs.length*(dL (aQ R.J b true)+55):=by
 induction cs with
 |nil=>simp[tI,oX]
 |cons c cs ih=>
  unfold tI at*;rw[List.map_cons,List.filter_cons];have hc:oX (c::cs)=c.url.length+lC c.words+oX cs:=by simp[oX,KR]
  rw[hc,List.length_cons,Nat.add_mul,Nat.one_mul];split
  ·rename_i hk;rw[List.map_cons,List.sum_cons];rw[Bool.and_eq_true,Bool.and_eq_true] at hk;have h1:=GY L hb (s:=c.url) hk.1.1;have h2:dL (aQ R.J ({nX R b c.url with words:=c.words}:fV).url true)+5*lC ({nX R b c.url with words:=c.words}:fV).words+2
    =dL (aQ R.J (nX R b c.url).url true)+5*lC c.words+2:=rfl
   rw[h2];omega
  ·omega
include L in
theorem T7 {b:bD} (hb:b.scheme=aN→b.opaq=false) (kind:Nat) (s:List UInt8):
 dL (mA R kind (tI R kind (eP R kind b s).1) (eP R kind b s).2)≤5*s.length+(eP R kind b s).1.length*(dL (aQ R.J b true)+64):=by
 unfold eP;by_cases h1:kind=1
 ·subst h1;simp only[if_true];unfold tI;rw[List.filter_cons,List.filter_nil];split;·rename_i hk;rw[Bool.and_eq_true,Bool.and_eq_true] at hk;have:=GY L hb (s:=s) hk.1.1;simp only[mA,if_true,List.length_cons,List.length_nil];omega
  ·simp[mA,eM]
 rw[if_neg h1];by_cases h2:kind=2
 ·subst h2;simp only[if_true];have h3:=agD L hb (qF R.Et s);have h4:=CD R.Et s;rw[List.length_map];have h5:(qF R.Et s).length*(dL (aQ R.J b true)+55)≤(qF R.Et s).length*(dL (aQ R.J b true)+64):=Nat.mul_le_mul_left _ (by omega);cases hl:tI R 2 ((qF R.Et s).map fun c=>{nX R b c.url with words:=c.words}) with
  |nil=>simp[mA,eM]
  |cons it r=>
   have h6:=abR (R:=R) (it::r);rw[←hl] at h6;have h7:mA R 2 (it::r) []=Ci R (tI R 2 ((qF R.Et s).map fun c=>{nX R b c.url with words:=c.words})):=by rw[hl];rfl
   rw[h7];omega
 rw[if_neg h2];by_cases h3:kind=3
 ·subst h3;simp only[if_true];cases hr:R.De s with
  |none=>simp[tI,mA,eM]
  |some r=>
   have h4:=L.De s r hr;have h5:=Ep r.xS;have h6:dL U6=6:=by decide
   simp only;by_cases hu:r.CE=true
   ·rw[if_pos hu];unfold tI;simp only;rw[List.filter_cons,List.filter_nil];split;·rename_i hk;rw[Bool.and_eq_true,Bool.and_eq_true] at hk;have:=GY L hb (s:=r.url) hk.1.1;simp only[mA,List.length_cons,List.length_nil];rw[if_neg (by omega),if_neg (by omega),if_pos trivial,cM,cM,h6];omega
    ·simp[mA,eM]
   ·rw[if_neg hu];unfold tI;simp only;rw[List.filter_cons,List.filter_nil];split;·simp only[mA,List.length_cons,List.length_nil];rw[if_neg (by omega),if_neg (by omega),if_pos trivial,cM,cM,h6];omega
    ·simp[mA,eM]
 ·rw[if_neg h3];simp[tI,mA,eM]
end
section
variable {J:Cf}
theorem BO {u v:bD} {s:List UInt8} (h:tH J u s=some v):v.scheme=u.scheme∧v.opaq=u.opaq:=by
 unfold tH at h;split at h;·cases h
 ·cases h;exact⟨rfl,rfl⟩
theorem NS {u v:bD} {s:List UInt8} (h:qE J u s=some v):v.opaq=u.opaq:=by
 unfold qE at h;simp only at h;split at h;·cases h;rfl
 split at h;·cases h;rfl
 split at h;·cases h
 ·cases h;rfl
theorem Re {b u:bD} {p:cU} (h:lL J b p=some u):u.opaq=false:=by
 unfold lL at h;simp only at h;split at h;·rw[NS h];rfl
 ·generalize QL:(if(b.scheme==aN)=true then({({bG J aN p with host:={kind:=1}}:bD) with host:=b.host}:bD) else{bG J aN p with host:={kind:=1}})=u0 at h;have a4:u0.opaq=false:=by rw[←QL];split<;>rfl
  clear QL;split at h;·cases h;exact a4
  split at h;·cases h;exact a4
  split at h;·cases h;exact a4
  ·cases h;exact a4
theorem Hr {b u:bD} {p:cU} (h:(if b.opaq then AK J b p else kL J b p)=some u) (hb:b.opaq=false):u.opaq=false:=by
 rw[hb] at h;simp only[Bool.false_eq_true,if_false] at h;unfold kL at h;simp only at h;split at h;·exact(BO h).2
 split at h;·exact(BO h).2
 split at h;·cases h;rfl
 split at h;·cases h;rfl
 ·cases h;rfl
def iK (J:Cf) (p:cU):Option bD:=if p.hasScheme then kS J {} p else none
theorem Rf (hs:J.aV aN=true) {p:cU} {b:bD} (h:iK J p=some b):b.scheme=aN→b.opaq=false:=by
 intro hf;unfold iK at h;split at h
 ·rename_i hp;unfold kS at h;simp only at h;split at h;·exact Re h
  split at h;·exact(BO h).2
  split at h
  ·rename_i hc;rw[hp] at hc;unfold qD at h;simp only at h;split at h;·exact(BO h).2
   split at h;·cases h;rfl
   ·exfalso;cases h;have:p.scheme=aN:=hf;rw[this,hs] at hc;simp at hc
  ·exact Hr (b:={}) h rfl
 ·cases h
end
end Go.Proofs.YtmgmclkplepapaaGreatDoor
