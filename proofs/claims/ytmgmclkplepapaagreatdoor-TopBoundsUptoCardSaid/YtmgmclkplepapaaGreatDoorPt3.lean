/- Part of the proof of TopBoundsUptoCardSaid. Conditions: none beyond the statement. -/
import Derived.Lib.ItoaNum
import Derived.Test.YtmgmclkplepapaaGreatDoorPt2
set_option linter.all false
set_option maxRecDepth 100000
set_option maxHeartbeats 64000000
namespace Go.Proofs.YtmgmclkplepapaaGreatDoor
open Go.Lib
def nJ (c:UInt8) (base:Nat):Option Nat:=
 let v:=if 48≤c.toNat∧c.toNat≤57 then some (c.toNat - 48) else if 97≤c.toNat∧c.toNat≤122 then some (c.toNat - 87) else if 65≤c.toNat∧c.toNat≤90 then some (c.toNat - 55) else none
 match v with
 |some d=>if base≤d then none else some d
 |none=>none
def Dg (base:Nat):Nat→List UInt8→Option Nat
 |n,[]=>some n
 |n,c::t=>match nJ c base with
  |none=>none
  |some d=>Dg base (min (n*base+d) 4294967296) t
def uB (base:Nat) (s:List UInt8):Option Nat:=if s=[] then none else Dg base 0 s
def wX (s:List UInt8):Option Nat:=
 if[48,120].isPrefixOf s||[48,88].isPrefixOf s then(if s.length=2 then some 0 else uB 16 (s.drop 2))
 else if decide (1 < s.length)&&s.head? ==some 48 then uB 8 (s.drop 1)
 else uB 10 s
def fE (s:List UInt8):List (List UInt8):=
 let l:=fZ 46 s
 if 1 < l.length∧l.getLast? =some [] then l.dropLast else l
def Ht (s:List UInt8):Bool:=(uB 10 ((fE s).getLast?.getD [])).isSome||(wX ((fE s).getLast?.getD [])).isSome
def KU (i sum:Nat):List (List UInt8)→Option Nat
 |[]=>some sum
 |[p]=>match wX p with
  |none=>none
  |some n=>if 2 ^ (8*(4 - i))≤n then none else some (sum+n)
 |p::r=>match wX p with
  |none=>none
  |some n=>if 255 < n then none else KU (i+1) (sum+n*2 ^ (8*(3 - i))) r
def mK (s:List UInt8):Option Nat:=if 4 < (fE s).length then none else(KU 0 0 (fE s)).map (·% 4294967296)
def AQ (n:Nat):List UInt8:=
 decDigits (n / 16777216 % 256)++[46]++(decDigits (n / 65536 % 256)++[46]++(decDigits (n / 256 % 256)++[46]++decDigits (n % 256)))
theorem U8:∀i:Fin 256,dL (decDigits i.val)≤3:=by decide+kernel
theorem Dh (n:Nat):dL (decDigits (n % 256))≤3:=U8 ⟨n % 256,Nat.mod_lt _ (by decide)⟩
theorem U9 (n:Nat):dL (AQ n)≤15:=by
 unfold AQ;have h1:=Dh (n / 16777216);have h2:=Dh (n / 65536);have h3:=Dh (n / 256);have h4:=Dh n;have h5:dL [46]=1:=by decide
 rw[cM,cM,cM,cM,cM,cM,h5];omega
theorem Fz:∀i:Fin 10,kS (UInt8.ofNat (48+i.val))=1:=by decide+kernel
theorem AR (u:Nat):dL (decDigits u)=if u < 10 then 1 else dL (decDigits (u / 10))+1:=by
 rw[decDigits];by_cases h:u < 10;·rw[dif_pos h,if_pos h,lN,eM,Fz ⟨u,h⟩]
 ·rw[dif_neg h,if_neg h,cM,lN,eM,Fz ⟨u % 10,Nat.mod_lt _ (by decide)⟩]
theorem NU (u:Nat) (h:u≤65535):dL (decDigits u)≤5:=by
 rw[AR];split;·omega
 rw[AR];split;·omega
 rw[AR];split;·omega
 rw[AR];split;·omega
 rw[AR];split;·omega
 ·omega
def gL:List UInt8:=[48,49,50,51,52,53,54,55,56,57,97,98,99,100,101,102]
def pY (n:Nat):List UInt8:=
 if n < 16 then[gL.getD n 0]
 else if n < 256 then[gL.getD (n / 16) 0,gL.getD (n % 16) 0]
 else if n < 4096 then[gL.getD (n / 256) 0,gL.getD (n / 16 % 16) 0,gL.getD (n % 16) 0]
 else[gL.getD (n / 4096) 0,gL.getD (n / 256 % 16) 0,gL.getD (n / 16 % 16) 0,gL.getD (n % 16) 0]
theorem Va:∀i:Fin 16,kS (gL.getD i.val 0)=1:=by decide+kernel
theorem Rh (n:Nat):kS (gL.getD n 0)=1:=by
 by_cases h:n < 16;·exact Va ⟨n,h⟩
 ·have:gL.getD n 0=0:=by rw[List.getD_eq_getElem?_getD,List.getElem?_eq_none (by show 16≤n;omega)];rfl
  rw[this];decide
theorem abT (n:Nat):dL (pY n)≤4:=by
 unfold pY
 repeat' split
 all_goals simp only[lN,eM,Rh]
 all_goals omega
def iV (a:List Nat) (i:Nat):Nat:=((a.drop i).takeWhile (· ==0)).length
def vU (a:List Nat):Nat→Nat→Nat→Nat→Nat×Nat
 |0,_,b,e=>(b,e)
 |n+1,i,b,e=>
  if 8≤i then(b,e)
  else
   let z:=iV a i
   if 2≤z∧e - b < z then vU a n (i+z+1) i (i+z) else vU a n (i+z+1) b e
def Gn (a:List Nat):Nat×Nat:=vU a 9 0 0 0
def iC (a:List Nat) (b e:Nat):Nat→Nat→List UInt8
 |0,_=>[]
 |n+1,i=>
  if 8≤i then[]
  else if i=b∧b < e then[58,58]++iC a b e n e
  else(if 0 < i∧(i≠e∨e=b) then[58] else[])++(pY (a.getD i 0)++iC a b e n (i+1))
def nZ (a:List Nat):List UInt8:=iC a (Gn a).1 (Gn a).2 9 0
theorem Ri (a:List Nat) (b e:Nat):∀n i,dL (iC a b e n i)≤5*(8 - i):=by
 intro n;induction n with
 |zero=>intro i;simp[iC,eM]
 |succ n ih=>
  intro i;rw[iC];split;·simp[eM]
  split
  ·rename_i h;rw[cM];have h1:=ih e;have h2:dL [58,58]=2:=by decide
   omega
  ·rw[cM,cM];have h1:=ih (i+1);have h2:=abT (a.getD i 0);have h3:dL (if 0 < i∧(i≠e∨e=b) then[58] else[])≤1:=by
    split;·decide
    ·simp[eM]
   omega
theorem Vb (a:List Nat):dL (nZ a)≤40:=Ri _ _ _ _ _
def zD:Nat→List UInt8→Option Nat
 |n,[]=>some n
 |n,c::t=>match nJ c 16 with
  |none=>none
  |some d=>zD (n*16+d) t
def kD (s:List UInt8):Option Nat:=if s=[]∨4 < s.length then none else(zD 0 s).map (·% 65536)
def zE:Nat→List UInt8→Option Nat
 |n,[]=>some n
 |n,c::t=>match nJ c 10 with
  |none=>none
  |some d=>zE (n*10+d) t
def cW (s:List UInt8):Option Nat:=
 if s=[]∨3 < s.length∨(1 < s.length∧s.head? =some 48) then none
 else match zE 0 s with
  |none=>none
  |some n=>if 255 < n then none else some n
def kE (s:List UInt8):Option (Nat×Nat):=
 match fZ 46 s with
 |[a,b,c,d]=>match cW a,cW b,cW c,cW d with
  |some a,some b,some c,some d=>some ((((a*256+b)*256+c)*256+d) / 65536 % 65536,(((a*256+b)*256+c)*256+d) % 65536)
  |_,_,_,_=>none
 |_=>none
def Al (numbers:Bool):List (List UInt8)→Option (List Nat)
 |[]=>some []
 |[p]=>if numbers&&p.contains 46 then(kE p).map fun x=>[x.1,x.2] else(kD p).map fun x=>[x]
 |p::r=>match kD p,Al numbers r with
  |some x,some l=>some (x::l)
  |_,_=>none
def lH (s:List UInt8) (numbers:Bool):Option (List Nat):=
 if s=[] then some [] else match Al numbers (fZ 58 s) with
  |none=>none
  |some l=>if 8 < l.length then none else some l
def xU:List UInt8→Option (List UInt8×List UInt8)
 |[]=>none
 |[_]=>none
 |a::b::t=>if a=58∧b=58 then some ([],t) else(xU (b::t)).map fun x=>(a::x.1,x.2)
def gM (s:List UInt8):Option (List Nat):=
 match xU s with
 |none=>match lH s true with
  |none=>none
  |some l=>if l.length=8 then some l else none
 |some (x,y)=>match lH x false,lH y true with
  |some l,some r=>if 8≤l.length+r.length then none else some (l++(List.replicate (8 - l.length - r.length) 0++r))
  |_,_=>none
def amR:List UInt8:=[0x00,0x09,0x0a,0x0d,0x20,35,47,58,60,62,63,64,91,92,93,94,124]
def Ev (c:UInt8):Bool:=amR.contains c
section
variable (P:List UInt8→List UInt8) (D:List UInt8→Option (List Nat)) (enc:Nat→List UInt8→List UInt8)
def nK (s:List UInt8):Option lK:=
 match nQ D (P s) with
 |none=>none
 |some name=>
  if name=[] then none
  else if name.any fun c=>Ev c||decide (c.toNat < 32)||c==37||c==127 then none
  else if Ht name then(mK name).map fun n=>{kind:=3,four:=n}
  else some {kind:=2,name:=name}
def T9 (s:List UInt8) (sp:Bool):Option lK:=
 match s with
 |91::t=>if t.getLast? =some 93 then(gM t.dropLast).map fun a=>{kind:=4,six:=a} else none
 |_=>if sp then nK P D s
  else if s=[] then some {kind:=1}
  else if s.any Ev then none
  else some {kind:=5,name:=enc 0 s}
end
def oZ (h:lK):List UInt8:=
 if h.kind=2∨h.kind=5 then h.name else if h.kind=3 then AQ h.four else if h.kind=4 then[91]++nZ h.six++[93] else[]
theorem X6 {P:List UInt8→List UInt8} {D:List UInt8→Option (List Nat)} {enc:Nat→List UInt8→List UInt8} (hP:∀s,(P s).length≤s.length) (he:∀k l,dL (enc k l)≤5*l.length)
 {s:List UInt8} {sp:Bool} {h:lK} (hh:T9 P D enc s sp=some h):dL (oZ h)≤5*s.length+41:=by
 unfold T9 at hh;split at hh
 ·rename_i t;split at hh
  ·obtain⟨a,_,rfl⟩:=Option.map_eq_some_iff.mp hh;have h1:=Vb a;have h2:dL [91]=1:=by decide
   have h3:dL [93]=1:=by decide
   show dL ([91]++nZ a++[93])≤_;rw[cM,cM,h2,h3,List.length_cons];omega
  ·cases hh
 ·split at hh
  ·unfold nK at hh;split at hh;·cases hh
   ·rename_i name hn;have h1:=BN hn;have h2:=hP s;split at hh;·cases hh
    split at hh;·cases hh
    split at hh;·obtain⟨n,_,rfl⟩:=Option.map_eq_some_iff.mp hh;have h1:=U9 n;show dL (AQ n)≤_;omega
    ·cases hh;show dL name≤_;unfold dL;omega
  split at hh;·cases hh;show dL []≤_;rw[eM];omega
  split at hh;·cases hh
  ·cases hh;have:=he 0 s;show dL (enc 0 s)≤_;omega
def Di (c:UInt8):Bool:=(decide (65≤c.toNat)&&decide (c.toNat≤90))||(decide (97≤c.toNat)&&decide (c.toNat≤122))
def kL (c:UInt8):Bool:=decide (48≤c.toNat)&&decide (c.toNat≤57)
def ajM (c:UInt8):UInt8:=if 65≤c.toNat∧c.toNat≤90 then c+32 else c
def gQ (l:List UInt8):List UInt8:=l.map ajM
def cE (f:UInt8→Bool) (l:List UInt8):List UInt8:=((l.dropWhile f).reverse.dropWhile f).reverse
def lO (l:List UInt8):List UInt8:=l.filter fun c=> !(c==9||c==10||c==13)
def qI (l:List UInt8):List UInt8:=lO (cE (fun c=>decide (c.toNat≤32)) l)
def bM (q:UInt8) (s:List UInt8):List UInt8×List UInt8×Bool:=if s.contains q then(s.takeWhile (· !=q),(s.dropWhile (· !=q)).drop 1,true) else(s,[],false)
def uC (s:List UInt8):Bool:=match s with
 |[]=>false
 |c::t=>Di c&&t.all fun c=>Di c||kL c||c==43||c==45||c==46
def splitN (s:List UInt8):cU:=
 let a:=bM 35 s;let b:=bM 63 a.1;let c:=bM 58 b.1
 if c.2.2&&uC c.1 then{hasScheme:=true,scheme:=gQ c.1,rest:=c.2.1,hasQuery:=b.2.2,query:=b.2.1,hasFrag:=a.2.2,frag:=a.2.1}
 else{rest:=b.1,hasQuery:=b.2.2,query:=b.2.1,hasFrag:=a.2.2,frag:=a.2.1}
theorem sO (q:UInt8) (s:List UInt8):(bM q s).1.length+(if(bM q s).2.2 then(bM q s).2.1.length+1 else 0)=s.length:=by
 unfold bM;by_cases h:s.contains q=true
 ·rw[if_pos h];have h1:=jF (· !=q) s;have h2:1≤(s.dropWhile (· !=q)).length:=by
   apply List.length_pos_iff.mpr;intro h0;have h3:∀l:List UInt8,l.dropWhile (· !=q)=[]→l.contains q=false:=by
    intro l;induction l with
    |nil=>intro _;rfl
    |cons c t ih=>
     intro hl;by_cases hc:(c !=q)=true
     ·rw[List.dropWhile_cons,if_pos hc] at hl;rw[List.contains_cons,ih hl,Bool.or_false];have:c≠q:=by simpa using hc
      simpa using fun h=>this h.symm
     ·rw[List.dropWhile_cons,if_neg hc] at hl;cases hl
   rw[h3 s h0] at h;cases h
  simp only[if_true,List.length_drop];omega
 ·rw[if_neg h];simp
theorem Rj (s:List UInt8):wV (splitN s)≤s.length:=by
 have h1:=sO 35 s;have h2:=sO 63 (bM 35 s).1;have h3:=sO 58 (bM 63 (bM 35 s).1).1;unfold splitN wV;simp only;split
 ·rename_i hc;rw[Bool.and_eq_true] at hc;rw[hc.1] at h3;have:(gQ (bM 58 (bM 63 (bM 35 s).1).1).1).length=(bM 58 (bM 63 (bM 35 s).1).1).1.length:=by unfold gQ;rw[List.length_map]
  simp only[if_true] at h3⊢;omega
 ·simp only[Bool.false_eq_true,if_false];omega
theorem sP (f:UInt8→Bool) (l:List UInt8):(cE f l).length≤l.length:=by unfold cE;rw[List.length_reverse];have h1:=bW f (l.dropWhile f).reverse;have h2:=bW f l;rw[List.length_reverse] at h1;omega
theorem Dj (l:List UInt8):(qI l).length≤l.length:=by unfold qI lO;exact Nat.le_trans (List.length_filter_le _ _) (sP _ _)
def partsOf (s:List UInt8):cU:=splitN (qI s)
theorem FB (s:List UInt8):wV (partsOf s)≤s.length:=Nat.le_trans (Rj _) (Dj s)
def uS:Nat→List UInt8→Option Nat
 |n,[]=>some n
 |n,c::t=>match nJ c 10 with
  |none=>none
  |some d=>uS (if(9223372036854775807 - d) / 10 < n then 9223372036854775807 else n*10+d) t
def fJ (s:List UInt8):Option Nat:=if s=[] then none else uS 0 s
def uD (s:List UInt8):Option Nat:=
 if s=[102,116,112] then some 21 else if s=[104,116,116,112]∨s=[119,115] then some 80 else if s=[104,116,116,112,115]∨s=[119,115,115] then some 443 else none
def nR (scheme s:List UInt8):Option (Bool×Nat):=
 if s=[] then some (false,0)
 else match fJ s with
  |none=>none
  |some n=>if 65535 < n then none else if uD scheme=some n then some (false,0) else some (true,n)
theorem NV {scheme s:List UInt8} {has:Bool} {n:Nat} (h:nR scheme s=some (has,n)):n≤65535:=by
 unfold nR at h;split at h;·cases h;omega
 split at h;·cases h
 split at h;·cases h
 split at h;·cases h;omega
 ·cases h;omega
def oA (s:List UInt8):List UInt8:=
 if gQ (s.take 3)=[117,114,108] then
  (match(s.drop 3).dropWhile aI with
  |61::t=>t.dropWhile aI
  |_=>s)
 else s
def nE (s:List UInt8):List UInt8:=match s with
 |[]=>s
 |q::t=>if q=34∨q=39 then t.takeWhile (· !=q) else s
def Ew (d:List UInt8):List UInt8:=if d.dropWhile (· ==48)=[] then[48] else d.dropWhile (· ==48)
def lP:List UInt8→List UInt8
 |[]=>[]
 |c::t=>if c=59∨c=44 then t.dropWhile aI else c::t
theorem Dk (r:List UInt8):(lP r).length≤r.length:=by
 cases r with
 |nil=>simp[lP]
 |cons c t=>
  rw[lP];have:=bW aI t;split;·rw[List.length_cons];omega
  ·omega
def pR (d s:List UInt8):Option NS:=
 match s with
 |[]=>some ⟨d,false,[]⟩
 |c::_=>if !aI c&&c !=59&&c !=44 then none
  else
   if lP (s.dropWhile aI)=[] then some ⟨d,false,[]⟩ else some ⟨d,true,nE (oA (lP (s.dropWhile aI)))⟩
def oB (s:List UInt8):Option NS:=
 let s:=s.dropWhile aI;let d:=s.takeWhile kL
 if d=[]∧s.head?≠some 46 then none
 else pR (Ew d) ((s.dropWhile kL).dropWhile fun c=>c==46||kL c)
theorem Hu (s:List UInt8):(oA s).length≤s.length:=by
 unfold oA;split
 ·split;·rename_i t h;have h1:=bW aI (s.drop 3);rw[h,List.length_cons,List.length_drop] at h1;have h2:=bW aI t;omega
  ·omega
 ·omega
theorem NW (s:List UInt8):(nE s).length≤s.length:=by
 unfold nE;split;·omega
 ·rename_i q t;split;·have:=jF (· !=q) t;rw[List.length_cons];omega
  ·omega
theorem X7 (d:List UInt8):(Ew d).length≤d.length+1:=by
 unfold Ew;split;·simp
 ·have:=bW (· ==48) d;omega
theorem Vc {d s:List UInt8} {r:NS} (h:pR d s=some r):r.xT=d∧r.url.length≤s.length:=by
 unfold pR at h;split at h;·cases h;exact⟨rfl,by simp⟩
 ·rename_i c t;split at h;·cases h
  ·have h1:=bW aI (c::t);generalize (c::t).dropWhile aI=a at h h1;split at h;·cases h;exact⟨rfl,by simp⟩
   ·cases h;exact⟨rfl,Nat.le_trans (NW _) (Nat.le_trans (Hu _) (Nat.le_trans (Dk _) h1))⟩
theorem vV {s:List UInt8} {r:NS} (h:oB s=some r):r.xT.length+r.url.length≤s.length+1:=by
 unfold oB at h;simp only at h;have h0:=bW aI s;generalize s.dropWhile aI=a at h h0;split at h;·cases h
 ·obtain⟨h1,h2⟩:=Vc h;have h3:=bW (fun c=>c==46||kL c) (a.dropWhile kL);have h4:=jF kL a;have h5:=X7 (a.takeWhile kL);rw[h1];omega
def lQ (c:UInt8):Bool:=c==9||c==10||c==13||c==32
def bS (f:UInt8→Bool) (l:List UInt8):List UInt8:=(l.reverse.dropWhile f).reverse
def kG:List UInt8:=[33,35,36,37,38,39,42,43,45,46,94,95,96,124,126]
def wY (s:List UInt8):Bool:=s.all (fun c=>Di c||kL c||kG.contains c)&&s !=[]
def uT (s:List UInt8):Option (List UInt8):=
 let a:=bM 47 (cE lQ s);let t:=bS lQ (bM 59 a.2.1).1
 if a.2.2&&wY a.1&&wY t then some (gQ a.1++[47]++gQ t) else none
def Dl:List UInt8:=[98,97,115,101,54,52]
def AS:List UInt8:=[116,101,120,116,47,112,108,97,105,110]
def rE:List UInt8:=[100,97,116,97]
def sQ (s:List UInt8):List UInt8:=
 if s.length < 6∨gQ (s.drop (s.length - 6))≠Dl then s
 else
  let h:=bS (· ==32) (s.take (s.length - 6))
  if h.getLast? =some 59 then h.dropLast else s
def iI (p s:List UInt8):List UInt8:=if p.isPrefixOf s then s.drop p.length else s
def KV (J:Cg) (u:bD):Option (List UInt8):=
 if u.scheme≠rE then none
 else
  let a:=bM 44 (aQ J u false)
  if a.2.2=false then none
  else
   let s:=sQ (cE aI (iI (rE++[58]) a.1));let s:=if s.head? =some 59 then AS++s else s
   some ((uT s).getD AS)
structure eH where
 nS:List (List UInt8)
 vW:List (List UInt8)
 types:List (List UInt8)
 AT:Int
def oC (J:Cg) (p:eH) (h:lK):Bool:=
 if h.kind=0∨h.kind=1 then true
 else p.vW.any fun a=>a==J.Ai h||a==[42]||([46].isPrefixOf a&&h.kind==2&&decide (a.length < h.name.length)&&a.isSuffixOf h.name)
def zF (J:Cg) (p:eH) (u:bD):Bool:=
 p.nS.contains u.scheme&&oC J p u.host&&(u.scheme !=rE||(match KV J u with
  |some e=>p.types.contains e
  |none=>false))
def BQ (c:UInt8):Bool:=c==101||c==69
def AU (s:List UInt8):Option Int:=
 if s.head? =some 45 then(if 4 < (s.drop 1).length then none else(fJ (s.drop 1)).map fun n=> -(n:Int))
 else if 4 < (iI [43] s).length then none else(fJ (iI [43] s)).map fun n=>(n:Int)
def amS:Nat:=4607182418800017408
def agF:Nat:=4621819117588971520
def xV:Nat→Nat
 |0=>amS
 |n+1=>(Ieee.double.mul (xV n) agF).getD 0
def vX (n:Nat):Nat:=Ieee.double.nearest false n 0
def Am (f:Nat) (m:Int):Nat:=if m < 0 then(Ieee.double.div f (xV m.natAbs)).getD 0 else(Ieee.double.mul f (xV m.natAbs)).getD 0
def Vd (f:Nat):Nat:=f^^^2 ^ 63
def geF (f:Nat):Bool:=Ieee.double.order f 0==some .gt||Ieee.double.order f 0==some .eq
def uK (below:Bool) (m:Int) (s:List UInt8):Option Nat:=
 if((bM 46 s).2.2=true∧(bM 46 s).2.1=[])∨15 < (bM 46 s).1.length+(bM 46 s).2.1.length then none
 else match fJ ((bM 46 s).1++(bM 46 s).2.1) with
  |none=>none
  |some n=>
   if m - ((bM 46 s).2.1.length:Int) < -22∨22 < m - ((bM 46 s).2.1.length:Int) then none
   else some (if below&&n !=0 then Vd (Am (vX n) (m - ((bM 46 s).2.1.length:Int))) else Am (vX n) (m - ((bM 46 s).2.1.length:Int)))
def CG (below:Bool) (s:List UInt8):Option Nat:=
 if s.any BQ then match AU ((s.dropWhile fun c=> !BQ c).drop 1) with
  |none=>none
  |some m=>uK below m (s.takeWhile fun c=> !BQ c)
 else uK below 0 s
def zG (s:List UInt8):Option Nat:=if s.head? =some 45 then CG true (s.drop 1) else CG false s
structure vY where
 Ma:Bool:=false
 wide:Nat:=0
 Mb:Bool:=false
 high:Nat:=0
 Mc:Bool:=false
 dens:Nat:=0
def takeN (c:vY) (word:List UInt8):Option vY:=
 match word.getLast? with
 |none=>none
 |some q=>
  if q=119 then match fJ word.dropLast with
   |none=>none
   |some n=>if n < 1∨c.Ma=true∨c.Mc=true then none else some {c with Ma:=true,wide:=n}
  else if q=104 then match fJ word.dropLast with
   |none=>none
   |some n=>if n < 1∨c.Mb=true∨c.Mc=true then none else some {c with Mb:=true,high:=n}
  else if q=120 then match zG word.dropLast with
   |none=>none
   |some f=>if geF f=false∨c.Ma=true∨c.Mb=true∨c.Mc=true then none else some {c with Mc:=true,dens:=f}
  else none
def vZ:vY→List (List UInt8)→Option vY
 |c,[]=>some c
 |c,w::r=>match takeN c w with
  |none=>none
  |some d=>vZ d r
def xW (l:List (List UInt8)):Option vY:=match vZ {} l with
 |none=>none
 |some c=>if c.Mb=true∧c.Ma=false then none else some c
def mC (l:List (List UInt8)):Bool:=(xW l).isSome
end Go.Proofs.YtmgmclkplepapaaGreatDoor
