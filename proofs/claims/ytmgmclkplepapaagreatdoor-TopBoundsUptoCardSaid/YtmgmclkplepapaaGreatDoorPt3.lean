/- Part of the proof of TopBoundsUptoCardSaid. Conditions: none beyond the statement. -/
import Derived.Lib.ItoaNum
import Derived.Test.YtmgmclkplepapaaGreatDoorPt2
set_option linter.all false
set_option maxRecDepth 100000
set_option maxHeartbeats 64000000
namespace Go.Proofs.YtmgmclkplepapaaGreatDoor
open Go.Lib
def nI (c:UInt8) (base:Nat):Option Nat:=
 let v:=if 48≤c.toNat∧c.toNat≤57 then some (c.toNat - 48) else if 97≤c.toNat∧c.toNat≤122 then some (c.toNat - 87) else if 65≤c.toNat∧c.toNat≤90 then some (c.toNat - 55) else none
 match v with
 |some d=>if base≤d then none else some d
 |none=>none
def Df (base:Nat):Nat→List UInt8→Option Nat
 |n,[]=>some n
 |n,c::t=>match nI c base with
  |none=>none
  |some d=>Df base (min (n*base+d) 4294967296) t
def uA (base:Nat) (s:List UInt8):Option Nat:=if s=[] then none else Df base 0 s
def wW (s:List UInt8):Option Nat:=
 if[48,120].isPrefixOf s||[48,88].isPrefixOf s then(if s.length=2 then some 0 else uA 16 (s.drop 2))
 else if decide (1 < s.length)&&s.head? ==some 48 then uA 8 (s.drop 1)
 else uA 10 s
def fE (s:List UInt8):List (List UInt8):=
 let l:=fZ 46 s
 if 1 < l.length∧l.getLast? =some [] then l.dropLast else l
def Hs (s:List UInt8):Bool:=(uA 10 ((fE s).getLast?.getD [])).isSome||(wW ((fE s).getLast?.getD [])).isSome
def KT (i sum:Nat):List (List UInt8)→Option Nat
 |[]=>some sum
 |[p]=>match wW p with
  |none=>none
  |some n=>if 2 ^ (8*(4 - i))≤n then none else some (sum+n)
 |p::r=>match wW p with
  |none=>none
  |some n=>if 255 < n then none else KT (i+1) (sum+n*2 ^ (8*(3 - i))) r
def mJ (s:List UInt8):Option Nat:=if 4 < (fE s).length then none else(KT 0 0 (fE s)).map (·% 4294967296)
def AP (n:Nat):List UInt8:=
 decDigits (n / 16777216 % 256)++[46]++(decDigits (n / 65536 % 256)++[46]++(decDigits (n / 256 % 256)++[46]++decDigits (n % 256)))
theorem U7:∀i:Fin 256,dL (decDigits i.val)≤3:=by decide+kernel
theorem Dg (n:Nat):dL (decDigits (n % 256))≤3:=U7 ⟨n % 256,Nat.mod_lt _ (by decide)⟩
theorem U8 (n:Nat):dL (AP n)≤15:=by
 unfold AP;have h1:=Dg (n / 16777216);have h2:=Dg (n / 65536);have h3:=Dg (n / 256);have h4:=Dg n;have h5:dL [46]=1:=by decide
 rw[cM,cM,cM,cM,cM,cM,h5];omega
theorem Fy:∀i:Fin 10,kR (UInt8.ofNat (48+i.val))=1:=by decide+kernel
theorem AQ (u:Nat):dL (decDigits u)=if u < 10 then 1 else dL (decDigits (u / 10))+1:=by
 rw[decDigits];by_cases h:u < 10;·rw[dif_pos h,if_pos h,lM,eM,Fy ⟨u,h⟩]
 ·rw[dif_neg h,if_neg h,cM,lM,eM,Fy ⟨u % 10,Nat.mod_lt _ (by decide)⟩]
theorem NT (u:Nat) (h:u≤65535):dL (decDigits u)≤5:=by
 rw[AQ];split;·omega
 rw[AQ];split;·omega
 rw[AQ];split;·omega
 rw[AQ];split;·omega
 rw[AQ];split;·omega
 ·omega
def gL:List UInt8:=[48,49,50,51,52,53,54,55,56,57,97,98,99,100,101,102]
def pX (n:Nat):List UInt8:=
 if n < 16 then[gL.getD n 0]
 else if n < 256 then[gL.getD (n / 16) 0,gL.getD (n % 16) 0]
 else if n < 4096 then[gL.getD (n / 256) 0,gL.getD (n / 16 % 16) 0,gL.getD (n % 16) 0]
 else[gL.getD (n / 4096) 0,gL.getD (n / 256 % 16) 0,gL.getD (n / 16 % 16) 0,gL.getD (n % 16) 0]
theorem U9:∀i:Fin 16,kR (gL.getD i.val 0)=1:=by decide+kernel
theorem Rg (n:Nat):kR (gL.getD n 0)=1:=by
 by_cases h:n < 16;·exact U9 ⟨n,h⟩
 ·have:gL.getD n 0=0:=by rw[List.getD_eq_getElem?_getD,List.getElem?_eq_none (by show 16≤n;omega)];rfl
  rw[this];decide
theorem abS (n:Nat):dL (pX n)≤4:=by
 unfold pX
 repeat' split
 all_goals simp only[lM,eM,Rg]
 all_goals omega
def iU (a:List Nat) (i:Nat):Nat:=((a.drop i).takeWhile (· ==0)).length
def vT (a:List Nat):Nat→Nat→Nat→Nat→Nat×Nat
 |0,_,b,e=>(b,e)
 |n+1,i,b,e=>
  if 8≤i then(b,e)
  else
   let z:=iU a i
   if 2≤z∧e - b < z then vT a n (i+z+1) i (i+z) else vT a n (i+z+1) b e
def Gm (a:List Nat):Nat×Nat:=vT a 9 0 0 0
def iB (a:List Nat) (b e:Nat):Nat→Nat→List UInt8
 |0,_=>[]
 |n+1,i=>
  if 8≤i then[]
  else if i=b∧b < e then[58,58]++iB a b e n e
  else(if 0 < i∧(i≠e∨e=b) then[58] else[])++(pX (a.getD i 0)++iB a b e n (i+1))
def nY (a:List Nat):List UInt8:=iB a (Gm a).1 (Gm a).2 9 0
theorem Rh (a:List Nat) (b e:Nat):∀n i,dL (iB a b e n i)≤5*(8 - i):=by
 intro n;induction n with
 |zero=>intro i;simp[iB,eM]
 |succ n ih=>
  intro i;rw[iB];split;·simp[eM]
  split
  ·rename_i h;rw[cM];have h1:=ih e;have h2:dL [58,58]=2:=by decide
   omega
  ·rw[cM,cM];have h1:=ih (i+1);have h2:=abS (a.getD i 0);have h3:dL (if 0 < i∧(i≠e∨e=b) then[58] else[])≤1:=by
    split;·decide
    ·simp[eM]
   omega
theorem Va (a:List Nat):dL (nY a)≤40:=Rh _ _ _ _ _
def zC:Nat→List UInt8→Option Nat
 |n,[]=>some n
 |n,c::t=>match nI c 16 with
  |none=>none
  |some d=>zC (n*16+d) t
def kC (s:List UInt8):Option Nat:=if s=[]∨4 < s.length then none else(zC 0 s).map (·% 65536)
def zD:Nat→List UInt8→Option Nat
 |n,[]=>some n
 |n,c::t=>match nI c 10 with
  |none=>none
  |some d=>zD (n*10+d) t
def cW (s:List UInt8):Option Nat:=
 if s=[]∨3 < s.length∨(1 < s.length∧s.head? =some 48) then none
 else match zD 0 s with
  |none=>none
  |some n=>if 255 < n then none else some n
def kD (s:List UInt8):Option (Nat×Nat):=
 match fZ 46 s with
 |[a,b,c,d]=>match cW a,cW b,cW c,cW d with
  |some a,some b,some c,some d=>some ((((a*256+b)*256+c)*256+d) / 65536 % 65536,(((a*256+b)*256+c)*256+d) % 65536)
  |_,_,_,_=>none
 |_=>none
def Ak (numbers:Bool):List (List UInt8)→Option (List Nat)
 |[]=>some []
 |[p]=>if numbers&&p.contains 46 then(kD p).map fun x=>[x.1,x.2] else(kC p).map fun x=>[x]
 |p::r=>match kC p,Ak numbers r with
  |some x,some l=>some (x::l)
  |_,_=>none
def lG (s:List UInt8) (numbers:Bool):Option (List Nat):=
 if s=[] then some [] else match Ak numbers (fZ 58 s) with
  |none=>none
  |some l=>if 8 < l.length then none else some l
def xT:List UInt8→Option (List UInt8×List UInt8)
 |[]=>none
 |[_]=>none
 |a::b::t=>if a=58∧b=58 then some ([],t) else(xT (b::t)).map fun x=>(a::x.1,x.2)
def gM (s:List UInt8):Option (List Nat):=
 match xT s with
 |none=>match lG s true with
  |none=>none
  |some l=>if l.length=8 then some l else none
 |some (x,y)=>match lG x false,lG y true with
  |some l,some r=>if 8≤l.length+r.length then none else some (l++(List.replicate (8 - l.length - r.length) 0++r))
  |_,_=>none
def amQ:List UInt8:=[0x00,0x09,0x0a,0x0d,0x20,35,47,58,60,62,63,64,91,92,93,94,124]
def Eu (c:UInt8):Bool:=amQ.contains c
section
variable (P:List UInt8→List UInt8) (D:List UInt8→Option (List Nat)) (enc:Nat→List UInt8→List UInt8)
def nJ (s:List UInt8):Option lJ:=
 match nP D (P s) with
 |none=>none
 |some name=>
  if name=[] then none
  else if name.any fun c=>Eu c||decide (c.toNat < 32)||c==37||c==127 then none
  else if Hs name then(mJ name).map fun n=>{kind:=3,four:=n}
  else some {kind:=2,name:=name}
def T8 (s:List UInt8) (sp:Bool):Option lJ:=
 match s with
 |91::t=>if t.getLast? =some 93 then(gM t.dropLast).map fun a=>{kind:=4,six:=a} else none
 |_=>if sp then nJ P D s
  else if s=[] then some {kind:=1}
  else if s.any Eu then none
  else some {kind:=5,name:=enc 0 s}
end
def oY (h:lJ):List UInt8:=
 if h.kind=2∨h.kind=5 then h.name else if h.kind=3 then AP h.four else if h.kind=4 then[91]++nY h.six++[93] else[]
theorem X5 {P:List UInt8→List UInt8} {D:List UInt8→Option (List Nat)} {enc:Nat→List UInt8→List UInt8} (hP:∀s,(P s).length≤s.length) (he:∀k l,dL (enc k l)≤5*l.length)
 {s:List UInt8} {sp:Bool} {h:lJ} (hh:T8 P D enc s sp=some h):dL (oY h)≤5*s.length+41:=by
 unfold T8 at hh;split at hh
 ·rename_i t;split at hh
  ·obtain⟨a,_,rfl⟩:=Option.map_eq_some_iff.mp hh;have h1:=Va a;have h2:dL [91]=1:=by decide
   have h3:dL [93]=1:=by decide
   show dL ([91]++nY a++[93])≤_;rw[cM,cM,h2,h3,List.length_cons];omega
  ·cases hh
 ·split at hh
  ·unfold nJ at hh;split at hh;·cases hh
   ·rename_i name hn;have h1:=BM hn;have h2:=hP s;split at hh;·cases hh
    split at hh;·cases hh
    split at hh;·obtain⟨n,_,rfl⟩:=Option.map_eq_some_iff.mp hh;have h1:=U8 n;show dL (AP n)≤_;omega
    ·cases hh;show dL name≤_;unfold dL;omega
  split at hh;·cases hh;show dL []≤_;rw[eM];omega
  split at hh;·cases hh
  ·cases hh;have:=he 0 s;show dL (enc 0 s)≤_;omega
def Dh (c:UInt8):Bool:=(decide (65≤c.toNat)&&decide (c.toNat≤90))||(decide (97≤c.toNat)&&decide (c.toNat≤122))
def kK (c:UInt8):Bool:=decide (48≤c.toNat)&&decide (c.toNat≤57)
def ajL (c:UInt8):UInt8:=if 65≤c.toNat∧c.toNat≤90 then c+32 else c
def gN (l:List UInt8):List UInt8:=l.map ajL
def cE (f:UInt8→Bool) (l:List UInt8):List UInt8:=((l.dropWhile f).reverse.dropWhile f).reverse
def lN (l:List UInt8):List UInt8:=l.filter fun c=> !(c==9||c==10||c==13)
def qH (l:List UInt8):List UInt8:=lN (cE (fun c=>decide (c.toNat≤32)) l)
def bM (q:UInt8) (s:List UInt8):List UInt8×List UInt8×Bool:=if s.contains q then(s.takeWhile (· !=q),(s.dropWhile (· !=q)).drop 1,true) else(s,[],false)
def uB (s:List UInt8):Bool:=match s with
 |[]=>false
 |c::t=>Dh c&&t.all fun c=>Dh c||kK c||c==43||c==45||c==46
def splitN (s:List UInt8):cU:=
 let a:=bM 35 s;let b:=bM 63 a.1;let c:=bM 58 b.1
 if c.2.2&&uB c.1 then{hasScheme:=true,scheme:=gN c.1,rest:=c.2.1,hasQuery:=b.2.2,query:=b.2.1,hasFrag:=a.2.2,frag:=a.2.1}
 else{rest:=b.1,hasQuery:=b.2.2,query:=b.2.1,hasFrag:=a.2.2,frag:=a.2.1}
theorem sN (q:UInt8) (s:List UInt8):(bM q s).1.length+(if(bM q s).2.2 then(bM q s).2.1.length+1 else 0)=s.length:=by
 unfold bM;by_cases h:s.contains q=true
 ·rw[if_pos h];have h1:=jE (· !=q) s;have h2:1≤(s.dropWhile (· !=q)).length:=by
   apply List.length_pos_iff.mpr;intro h0;have h3:∀l:List UInt8,l.dropWhile (· !=q)=[]→l.contains q=false:=by
    intro l;induction l with
    |nil=>intro _;rfl
    |cons c t ih=>
     intro hl;by_cases hc:(c !=q)=true
     ·rw[List.dropWhile_cons,if_pos hc] at hl;rw[List.contains_cons,ih hl,Bool.or_false];have:c≠q:=by simpa using hc
      simpa using fun h=>this h.symm
     ·rw[List.dropWhile_cons,if_neg hc] at hl;cases hl
   rw[h3 s h0] at h;cases h
  simp only[if_true,List.length_drop];omega
 ·rw[if_neg h];simp
theorem Ri (s:List UInt8):wU (splitN s)≤s.length:=by
 have h1:=sN 35 s;have h2:=sN 63 (bM 35 s).1;have h3:=sN 58 (bM 63 (bM 35 s).1).1;unfold splitN wU;simp only;split
 ·rename_i hc;rw[Bool.and_eq_true] at hc;rw[hc.1] at h3;have:(gN (bM 58 (bM 63 (bM 35 s).1).1).1).length=(bM 58 (bM 63 (bM 35 s).1).1).1.length:=by unfold gN;rw[List.length_map]
  simp only[if_true] at h3⊢;omega
 ·simp only[Bool.false_eq_true,if_false];omega
theorem sO (f:UInt8→Bool) (l:List UInt8):(cE f l).length≤l.length:=by unfold cE;rw[List.length_reverse];have h1:=bW f (l.dropWhile f).reverse;have h2:=bW f l;rw[List.length_reverse] at h1;omega
theorem Di (l:List UInt8):(qH l).length≤l.length:=by unfold qH lN;exact Nat.le_trans (List.length_filter_le _ _) (sO _ _)
def partsOf (s:List UInt8):cU:=splitN (qH s)
theorem Fz (s:List UInt8):wU (partsOf s)≤s.length:=Nat.le_trans (Ri _) (Di s)
def uR:Nat→List UInt8→Option Nat
 |n,[]=>some n
 |n,c::t=>match nI c 10 with
  |none=>none
  |some d=>uR (if(9223372036854775807 - d) / 10 < n then 9223372036854775807 else n*10+d) t
def fJ (s:List UInt8):Option Nat:=if s=[] then none else uR 0 s
def uC (s:List UInt8):Option Nat:=
 if s=[102,116,112] then some 21 else if s=[104,116,116,112]∨s=[119,115] then some 80 else if s=[104,116,116,112,115]∨s=[119,115,115] then some 443 else none
def nQ (scheme s:List UInt8):Option (Bool×Nat):=
 if s=[] then some (false,0)
 else match fJ s with
  |none=>none
  |some n=>if 65535 < n then none else if uC scheme=some n then some (false,0) else some (true,n)
theorem NU {scheme s:List UInt8} {has:Bool} {n:Nat} (h:nQ scheme s=some (has,n)):n≤65535:=by
 unfold nQ at h;split at h;·cases h;omega
 split at h;·cases h
 split at h;·cases h
 split at h;·cases h;omega
 ·cases h;omega
def nZ (s:List UInt8):List UInt8:=
 if gN (s.take 3)=[117,114,108] then
  (match(s.drop 3).dropWhile aI with
  |61::t=>t.dropWhile aI
  |_=>s)
 else s
def nD (s:List UInt8):List UInt8:=match s with
 |[]=>s
 |q::t=>if q=34∨q=39 then t.takeWhile (· !=q) else s
def Ev (d:List UInt8):List UInt8:=if d.dropWhile (· ==48)=[] then[48] else d.dropWhile (· ==48)
def lO:List UInt8→List UInt8
 |[]=>[]
 |c::t=>if c=59∨c=44 then t.dropWhile aI else c::t
theorem Dj (r:List UInt8):(lO r).length≤r.length:=by
 cases r with
 |nil=>simp[lO]
 |cons c t=>
  rw[lO];have:=bW aI t;split;·rw[List.length_cons];omega
  ·omega
def pQ (d s:List UInt8):Option NR:=
 match s with
 |[]=>some ⟨d,false,[]⟩
 |c::_=>if !aI c&&c !=59&&c !=44 then none
  else
   if lO (s.dropWhile aI)=[] then some ⟨d,false,[]⟩ else some ⟨d,true,nD (nZ (lO (s.dropWhile aI)))⟩
def oA (s:List UInt8):Option NR:=
 let s:=s.dropWhile aI;let d:=s.takeWhile kK
 if d=[]∧s.head?≠some 46 then none
 else pQ (Ev d) ((s.dropWhile kK).dropWhile fun c=>c==46||kK c)
theorem Ht (s:List UInt8):(nZ s).length≤s.length:=by
 unfold nZ;split
 ·split;·rename_i t h;have h1:=bW aI (s.drop 3);rw[h,List.length_cons,List.length_drop] at h1;have h2:=bW aI t;omega
  ·omega
 ·omega
theorem NV (s:List UInt8):(nD s).length≤s.length:=by
 unfold nD;split;·omega
 ·rename_i q t;split;·have:=jE (· !=q) t;rw[List.length_cons];omega
  ·omega
theorem X6 (d:List UInt8):(Ev d).length≤d.length+1:=by
 unfold Ev;split;·simp
 ·have:=bW (· ==48) d;omega
theorem Vb {d s:List UInt8} {r:NR} (h:pQ d s=some r):r.xS=d∧r.url.length≤s.length:=by
 unfold pQ at h;split at h;·cases h;exact⟨rfl,by simp⟩
 ·rename_i c t;split at h;·cases h
  ·have h1:=bW aI (c::t);generalize (c::t).dropWhile aI=a at h h1;split at h;·cases h;exact⟨rfl,by simp⟩
   ·cases h;exact⟨rfl,Nat.le_trans (NV _) (Nat.le_trans (Ht _) (Nat.le_trans (Dj _) h1))⟩
theorem vU {s:List UInt8} {r:NR} (h:oA s=some r):r.xS.length+r.url.length≤s.length+1:=by
 unfold oA at h;simp only at h;have h0:=bW aI s;generalize s.dropWhile aI=a at h h0;split at h;·cases h
 ·obtain⟨h1,h2⟩:=Vb h;have h3:=bW (fun c=>c==46||kK c) (a.dropWhile kK);have h4:=jE kK a;have h5:=X6 (a.takeWhile kK);rw[h1];omega
def lP (c:UInt8):Bool:=c==9||c==10||c==13||c==32
def bS (f:UInt8→Bool) (l:List UInt8):List UInt8:=(l.reverse.dropWhile f).reverse
def kE:List UInt8:=[33,35,36,37,38,39,42,43,45,46,94,95,96,124,126]
def wX (s:List UInt8):Bool:=s.all (fun c=>Dh c||kK c||kE.contains c)&&s !=[]
def uS (s:List UInt8):Option (List UInt8):=
 let a:=bM 47 (cE lP s);let t:=bS lP (bM 59 a.2.1).1
 if a.2.2&&wX a.1&&wX t then some (gN a.1++[47]++gN t) else none
def Dk:List UInt8:=[98,97,115,101,54,52]
def AR:List UInt8:=[116,101,120,116,47,112,108,97,105,110]
def rD:List UInt8:=[100,97,116,97]
def sP (s:List UInt8):List UInt8:=
 if s.length < 6∨gN (s.drop (s.length - 6))≠Dk then s
 else
  let h:=bS (· ==32) (s.take (s.length - 6))
  if h.getLast? =some 59 then h.dropLast else s
def iH (p s:List UInt8):List UInt8:=if p.isPrefixOf s then s.drop p.length else s
def KU (J:Cf) (u:bD):Option (List UInt8):=
 if u.scheme≠rD then none
 else
  let a:=bM 44 (aQ J u false)
  if a.2.2=false then none
  else
   let s:=sP (cE aI (iH (rD++[58]) a.1));let s:=if s.head? =some 59 then AR++s else s
   some ((uS s).getD AR)
structure eH where
 nR:List (List UInt8)
 vV:List (List UInt8)
 types:List (List UInt8)
 AS:Int
def oB (J:Cf) (p:eH) (h:lJ):Bool:=
 if h.kind=0∨h.kind=1 then true
 else p.vV.any fun a=>a==J.Ah h||a==[42]||([46].isPrefixOf a&&h.kind==2&&decide (a.length < h.name.length)&&a.isSuffixOf h.name)
def zE (J:Cf) (p:eH) (u:bD):Bool:=
 p.nR.contains u.scheme&&oB J p u.host&&(u.scheme !=rD||(match KU J u with
  |some e=>p.types.contains e
  |none=>false))
def BP (c:UInt8):Bool:=c==101||c==69
def AT (s:List UInt8):Option Int:=
 if s.head? =some 45 then(if 4 < (s.drop 1).length then none else(fJ (s.drop 1)).map fun n=> -(n:Int))
 else if 4 < (iH [43] s).length then none else(fJ (iH [43] s)).map fun n=>(n:Int)
def amR:Nat:=4607182418800017408
def agE:Nat:=4621819117588971520
def xU:Nat→Nat
 |0=>amR
 |n+1=>(Ieee.double.mul (xU n) agE).getD 0
def vW (n:Nat):Nat:=Ieee.double.nearest false n 0
def Al (f:Nat) (m:Int):Nat:=if m < 0 then(Ieee.double.div f (xU m.natAbs)).getD 0 else(Ieee.double.mul f (xU m.natAbs)).getD 0
def Vc (f:Nat):Nat:=f^^^2 ^ 63
def geF (f:Nat):Bool:=Ieee.double.order f 0==some .gt||Ieee.double.order f 0==some .eq
def uJ (below:Bool) (m:Int) (s:List UInt8):Option Nat:=
 if((bM 46 s).2.2=true∧(bM 46 s).2.1=[])∨15 < (bM 46 s).1.length+(bM 46 s).2.1.length then none
 else match fJ ((bM 46 s).1++(bM 46 s).2.1) with
  |none=>none
  |some n=>
   if m - ((bM 46 s).2.1.length:Int) < -22∨22 < m - ((bM 46 s).2.1.length:Int) then none
   else some (if below&&n !=0 then Vc (Al (vW n) (m - ((bM 46 s).2.1.length:Int))) else Al (vW n) (m - ((bM 46 s).2.1.length:Int)))
def CF (below:Bool) (s:List UInt8):Option Nat:=
 if s.any BP then match AT ((s.dropWhile fun c=> !BP c).drop 1) with
  |none=>none
  |some m=>uJ below m (s.takeWhile fun c=> !BP c)
 else uJ below 0 s
def zF (s:List UInt8):Option Nat:=if s.head? =some 45 then CF true (s.drop 1) else CF false s
structure vX where
 L8:Bool:=false
 wide:Nat:=0
 Ma:Bool:=false
 high:Nat:=0
 Mb:Bool:=false
 dens:Nat:=0
def takeN (c:vX) (word:List UInt8):Option vX:=
 match word.getLast? with
 |none=>none
 |some q=>
  if q=119 then match fJ word.dropLast with
   |none=>none
   |some n=>if n < 1∨c.L8=true∨c.Mb=true then none else some {c with L8:=true,wide:=n}
  else if q=104 then match fJ word.dropLast with
   |none=>none
   |some n=>if n < 1∨c.Ma=true∨c.Mb=true then none else some {c with Ma:=true,high:=n}
  else if q=120 then match zF word.dropLast with
   |none=>none
   |some f=>if geF f=false∨c.L8=true∨c.Ma=true∨c.Mb=true then none else some {c with Mb:=true,dens:=f}
  else none
def vY:vX→List (List UInt8)→Option vX
 |c,[]=>some c
 |c,w::r=>match takeN c w with
  |none=>none
  |some d=>vY d r
def xV (l:List (List UInt8)):Option vX:=match vY {} l with
 |none=>none
 |some c=>if c.Ma=true∧c.L8=false then none else some c
def mB (l:List (List UInt8)):Bool:=(xV l).isSome
end Go.Proofs.YtmgmclkplepapaaGreatDoor
