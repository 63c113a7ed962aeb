/- Part of the proof of TopBoundsUptoCardSaid. Conditions: none beyond the statement. -/
import Init
import Derived.Lib.DecodeN
set_option linter.all false
set_option maxRecDepth 100000
set_option maxHeartbeats 64000000
namespace Go.Proofs.YtmgmclkplepapaaGreatDoor
open Go.Lib
def LP (sp:Bool) (c:UInt8):Bool:=c==47||(sp&&c==92)
def dU (sp:Bool):List UInt8→List (List UInt8)
 |[]=>[[]]
 |c::r=>if LP sp c=true then[]::dU sp r else match dU sp r with
  |[]=>[[c]]
  |p::ps=>(c::p)::ps
theorem LQ (sp:Bool) (l:List UInt8):dU sp l≠[]:=by
 cases l with
 |nil=>simp[dU]
 |cons c r=>
  unfold dU;split;·simp
  ·split<;>simp
theorem KF (sp:Bool) (l:List UInt8) (c:UInt8) (D:List (List UInt8)) (p:List UInt8) (h:dU sp l=D++[p]):
 dU sp (l++[c])=if LP sp c=true then D++[p,[]] else D++[p++[c]]:=by
 induction l generalizing D p with
 |nil=>
  have h':([[]]:List (List UInt8))=D++[p]:=h;cases D with
  |nil=>simp at h';subst h';by_cases hs:LP sp c=true<;>simp[dU,hs]
  |cons d D=>simp at h'
 |cons a r ih=>
  rw[List.cons_append];unfold dU at h⊢;by_cases ha:LP sp a=true
  ·rw[if_pos ha] at h⊢;cases D with
   |nil=>simp only[List.nil_append] at h;injection h with h1 h2;exact absurd h2 (LQ sp r)
   |cons d D=>rw[List.cons_append] at h;injection h with h1 h2;subst h1;rw[ih D p h2];split<;>simp
  ·rw[if_neg ha] at h⊢;cases hr:dU sp r with
   |nil=>exact absurd hr (LQ sp r)
   |cons q qs=>
    rw[hr] at h;simp only[] at h;cases D with
    |nil=>simp only[List.nil_append] at h;injection h with h1 h2;subst h1 h2;have:=ih [] q hr;rw[this];by_cases hs:LP sp c=true<;>simp[hs]
    |cons d D=>rw[List.cons_append] at h;injection h with h1 h2;subst h1;have:=ih (q::D) p (by rw[hr,h2];rfl);rw[this];by_cases hs:LP sp c=true<;>simp[hs]
section
structure TV where
 Q1:List UInt8→Bool
 dot:List UInt8→Bool
 TW:List UInt8→Bool
 normal:List UInt8→Bool
 enc:List UInt8→List UInt8
 drv:List UInt8→List UInt8
variable (S:TV)
def TX (file:Bool) (out:List (List UInt8)):List (List UInt8):=
 match out with
 |[]=>[]
 |[x]=>if(file&&S.normal x)=true then[x] else[]
 |x::y::r=>(x::y::r).dropLast
def xJ (file:Bool) (out:List (List UInt8)) (p:List UInt8):List (List UInt8):=
 if S.Q1 p=true then TX S file out else if S.dot p=true then out
 else if(file&&(out.isEmpty&&S.TW p))=true then out++[S.drv p] else out++[S.enc p]
def Ei (file:Bool) (out:List (List UInt8)) (L:List (List UInt8)):List (List UInt8):=L.foldl (xJ S file) out
def sL (p:List UInt8):Bool:=S.Q1 p||S.dot p
def KG (L:List (List UInt8)):List (List UInt8):=
 match L.getLast? with
 |some p=>if sL S p=true then[[]] else[]
 |none=>[]
def Ej (file:Bool) (out:List (List UInt8)) (L:List (List UInt8)):List (List UInt8):=Ei S file out L++KG S L
theorem NH (file:Bool) (out:List (List UInt8)):Ei S file out []=out:=rfl
theorem Ek (file:Bool) (out:List (List UInt8)) (p:List UInt8) (L:List (List UInt8)):Ei S file out (p::L)=Ei S file (xJ S file out p) L:=rfl
theorem XQ (file:Bool) (out A B:List (List UInt8)):Ei S file out (A++B)=Ei S file (Ei S file out A) B:=by unfold Ei;rw[List.foldl_append]
theorem LR (file:Bool) (x:List UInt8):TX S file [x]=if(file&&S.normal x)=true then[x] else[]:=rfl
theorem LS (file:Bool) (out:List (List UInt8)):(TX S file out).length≤out.length∧out.length≤(TX S file out).length+1:=by
 match out with
 |[]=>simp[TX]
 |[x]=>rw[LR];split<;>simp
 |x::y::r=>simp[TX]
theorem NI (file:Bool) (out:List (List UInt8)):TX S file out=out.take (TX S file out).length:=by
 match out with
 |[]=>rfl
 |[x]=>rw[LR];split<;>rfl
 |x::y::r=>show(x::y::r).dropLast=List.take ((x::y::r).dropLast).length (x::y::r);rw[List.length_dropLast,List.dropLast_eq_take]
theorem UY (file:Bool) (out:List (List UInt8)) (p:List UInt8):(xJ S file out p).length≤out.length+1:=by
 unfold xJ;have:=LS S file out;split;·omega
 ·split;·omega
  ·split<;>simp
theorem XR (file:Bool) (L out:List (List UInt8)):(Ei S file out L).length≤out.length+L.length:=by
 induction L generalizing out with
 |nil=>simp[Ei]
 |cons p r ih=>rw[Ek];have h1:=ih (xJ S file out p);have h2:=UY S file out p;simp only[List.length_cons];omega
end
def dV (j bJ:Nat):Nat:=min (max (36*(j+1) - bJ) 1) 26
def pZ (d:Nat):UInt8:=if d < 26 then UInt8.ofNat (97+d) else UInt8.ofNat (48+d - 26)
theorem rG (j bJ:Nat):1≤dV j bJ:=by unfold dV;omega
theorem xK (j bJ:Nat):dV j bJ≤26:=by unfold dV;omega
theorem Hg {d b:Nat} (hb:1≤b) (dE:b≤26) (h:b≤d):(d - b) / (36 - b) < d:=by have:(d - b) / (36 - b)≤d - b:=Nat.div_le_self _ _;omega
def jL (j d bJ:Nat):List UInt8:=
 if h:d < dV j bJ then[pZ d] else pZ (dV j bJ+(d - dV j bJ) % (36 - dV j bJ))::jL (j+1) ((d - dV j bJ) / (36 - dV j bJ)) bJ
termination_by d
decreasing_by exact Hg (rG _ _) (xK _ _) (by omega)
def Gk:Nat→Nat
 |0=>0
 |1=>1
 |2=>36
 |n+1=>10*Gk n+26
theorem UZ (k b d:Nat) (hb:1≤b) (dE:b≤26) (h:d < Gk (k+2)) (hd:b≤d):(d - b) / (36 - b) < Gk (k+1):=by
 rw[Nat.div_lt_iff_lt_mul (by omega)]
 match k,h with
 |0,h=>have h:d < 36:=h;have:Gk (0+1)=1:=rfl;rw[this];omega
 |k+1,h=>
  have h:d < 10*Gk (k+2)+26:=h;have hp:1≤Gk (k+2):=by
   cases k with
   |zero=>decide
   |succ k=>have:Gk (k+1+2)=10*Gk (k+2)+26:=rfl
            omega
  show d - b < Gk (k+2)*(36 - b);obtain⟨c,hc⟩:∃c,c=26 - b:=⟨_,rfl⟩;have h36:36 - b=10+c:=by omega
  have oN:c≤Gk (k+2)*c:=Nat.le_mul_of_pos_left _ hp;rw[h36,Nat.mul_add];omega
theorem Q2:∀(k j d bJ:Nat),d < Gk (k+1)→(jL j d bJ).length≤k+1:=by
 intro k;induction k with
 |zero=>intro j d bJ h;have h0:d < 1:=h;rw[jL,dif_pos (by have:=rG j bJ;omega)];simp
 |succ k ih=>
  intro j d bJ h;rw[jL];split;·simp
  ·rename_i hd;rw[List.length_cons];have:=ih (j+1) _ bJ (UZ k (dV j bJ) d (rG _ _) (xK _ _) h (by omega));omega
theorem C6 (j d bJ:Nat) (h:d < 38888886):(jL j d bJ).length≤8:=
 Q2 7 j d bJ (by have:Gk (7+1)=38888886:=by decide
                 omega)
theorem Q3:∀(m j d bJ:Nat),d≤m→∀c∈jL j d bJ,∃e,e < 36∧c=pZ e:=by
 intro m;induction m with
 |zero=>intro j d bJ hd c hc;rw[jL,dif_pos (by have:=rG j bJ;omega)] at hc;exact⟨d,by omega,by simpa using hc⟩
 |succ m ih=>
  intro j d bJ hd c hc;have h1:=rG j bJ;have h2:=xK j bJ;rw[jL] at hc;split at hc;·exact⟨d,by omega,by simpa using hc⟩
  ·rename_i hn;rcases List.mem_cons.mp hc with rfl|hc;·exact⟨_,by have:=Nat.mod_lt (d - dV j bJ) (y:=36 - dV j bJ) (by omega);omega,rfl⟩
   ·exact ih (j+1) _ bJ (by have:=Hg h1 h2 (by omega:dV j bJ≤d);omega) c hc
def pO (f:UInt8→Nat) (l:List UInt8):Nat:=(l.map f).sum
theorem abJ (f:UInt8→Nat):pO f []=0:=rfl
theorem kO (f:UInt8→Nat) (c:UInt8) (l:List UInt8):pO f (c::l)=f c+pO f l:=by simp[pO]
theorem yV (f:UInt8→Nat) (a b:List UInt8):pO f (a++b)=pO f a+pO f b:=by simp[pO]
theorem XS (f:UInt8→Nat) (l:List UInt8) (h:∀c∈l,f c=1):pO f l=l.length:=by
 induction l with
 |nil=>rfl
 |cons c l ih=>rw[kO,h c List.mem_cons_self,ih fun c hc=>h c (List.mem_cons_of_mem _ hc),List.length_cons];omega
theorem Q4 (f:UInt8→Nat) (k:Nat) (l:List UInt8) (h:∀c∈l,f c≤k):pO f l≤k*l.length:=by
 induction l with
 |nil=>simp[pO]
 |cons c l ih=>have h1:=h c List.mem_cons_self;have h2:=ih fun c hc=>h c (List.mem_cons_of_mem _ hc);rw[kO,List.length_cons,Nat.mul_add];omega
def Hh (f:UInt8→Nat):Prop:=∀e,e < 36→f (pZ e)=1
theorem U0 {f:UInt8→Nat} (hf:Hh f) (j d bJ:Nat) (h:d < 38888886):pO f (jL j d bJ)≤8:=by rw[XS f _ fun c hc=>by obtain⟨e,he,rfl⟩:=Q3 d j d bJ (Nat.le_refl _) c hc;exact hf e he];exact C6 j d bJ h
def fL (d k:Nat):Nat×Nat:=if h:455 < d then fL (d / 35) (k+36) else(d,k)
termination_by d
decreasing_by exact Nat.div_lt_self (by omega) (by omega)
def tV (d n:Nat) (first:Bool):Nat:=
 let e:=if first then d / 700 else d / 2
 let x:=fL (e+e / n) 0
 x.2+36*x.1 / (x.1+38)
structure PSt where
 d:Nat
 bJ:Nat
 first:Bool
 done:Nat
 out:List UInt8
def pK (sign:Nat) (s:PSt) (c:Nat):PSt:=
 let d:=if c < sign then s.d+1 else s.d
 if c=sign then⟨0,tV d (s.done+1) s.first,false,s.done+1,s.out++jL 0 d s.bJ⟩ else{s with d:=d}
def Hi (l:List Nat) (low:Nat):Option Nat:=
 l.foldl (fun f c=>if low≤c then match f with
  |none=>some c
  |some m=>if c < m then some c else some m
  else f) none
def tF (l:List Nat):Nat→Nat→PSt→PSt
 |0,_,s=>s
 |n+1,sign,s=>
  if s.done < l.length then
   let next:=(Hi l sign).getD 0
   let t:=l.foldl (pK next) {s with d:=s.d+(next - sign)*(s.done+1)}
   tF l n (next+1) {t with d:=t.d+1}
  else s
def fP (l:List Nat):List UInt8:=(l.filter fun c=>decide (c < 128)).map UInt8.ofNat
def qA (l:List Nat):List UInt8:=if fP l=[] then[] else fP l++[45]
def CA (l:List Nat):List UInt8:=(tF l l.length 128 ⟨0,72,true,(fP l).length,qA l⟩).out
def eK (l:List Nat) (sign:Nat):Nat:=l.countP fun c=>decide (sign≤c)
theorem KH (l:List Nat) (low:Nat) (h:0 < eK l low):∃m,Hi l low=some m∧m∈l∧low≤m∧∀c∈l,low≤c→m≤c:=by
 suffices H:∀(l:List Nat) (f:Option Nat),(∀m,f=some m→low≤m)→
  (∃m,l.foldl (fun f c=>if low≤c then match f with
    |none=>some c
    |some m=>if c < m then some c else some m
    else f) f=some m∧(f=some m∨m∈l)∧low≤m∧(∀x,f=some x→m≤x)∧∀c∈l,low≤c→m≤c)∨
  (l.foldl (fun f c=>if low≤c then match f with
    |none=>some c
    |some m=>if c < m then some c else some m
    else f) f=none∧f=none∧∀c∈l,¬low≤c) by
  rcases H l none (by simp) with⟨m,h1,h2,h3,_,h5⟩|⟨_,_,h3⟩;·exact⟨m,h1,by simpa using h2,h3,h5⟩
  ·exfalso;unfold eK at h;rw[List.countP_pos_iff] at h;obtain⟨c,hc,hd⟩:=h;exact h3 c hc (by simpa using hd)
 clear h;intro l;induction l with
 |nil=>
  intro f hf;cases f with
  |none=>right;exact⟨rfl,rfl,by simp⟩
  |some m=>left;exact⟨m,rfl,.inl rfl,hf m rfl,by intro x hx;cases hx;omega,by simp⟩
 |cons c l ih=>
  intro f hf;rw[List.foldl_cons];by_cases hc:low≤c
  ·rw[if_pos hc];have key:∀g:Nat,low≤g→(g=c∨f=some g)→(∀x,f=some x→g≤x)→g≤c→
    (∃m,l.foldl (fun f c=>if low≤c then match f with
      |none=>some c
      |some m=>if c < m then some c else some m
      else f) (some g)=some m∧(f=some m∨m∈c::l)∧low≤m∧(∀x,f=some x→m≤x)∧∀y∈c::l,low≤y→m≤y):=by
    intro g hg hor hx hgc;rcases ih (some g) (by intro m hm;cases hm;exact hg) with⟨m,h1,h2,h3,h4,h5⟩|⟨_,hn,_⟩
    ·have hmg:=h4 g rfl;refine⟨m,h1,?_,h3,fun x hfx=>Nat.le_trans hmg (hx x hfx),?_⟩
     ·rcases h2 with h2|h2
      ·cases h2;rcases hor with rfl|h;·right;exact List.mem_cons_self
       ·left;exact h
      ·right;exact List.mem_cons_of_mem _ h2
     ·intro y hy hly;rcases List.mem_cons.mp hy with rfl|hy;·omega
      ·exact h5 y hy hly
    ·cases hn
   cases f with
   |none=>left;exact key c hc (.inl rfl) (by simp) (Nat.le_refl _)
   |some m=>
    have hm:=hf m rfl;show _∨_;by_cases hcm:c < m;·left;have:=key c hc (.inl rfl) (by intro x hx;cases hx;omega) (Nat.le_refl _);simpa only[if_pos hcm] using this
    ·left;have:=key m hm (.inr rfl) (by intro x hx;cases hx;omega) (by omega);simpa only[if_neg hcm] using this
  ·rw[if_neg hc];rcases ih f hf with⟨m,h1,h2,h3,h4,h5⟩|⟨h1,h2,h3⟩
   ·left;refine⟨m,h1,h2.imp id (List.mem_cons_of_mem _),h3,h4,?_⟩;intro y hy hly;rcases List.mem_cons.mp hy with rfl|hy;·exact absurd hly hc
    ·exact h5 y hy hly
   ·right;refine⟨h1,h2,?_⟩;intro y hy;rcases List.mem_cons.mp hy with rfl|hy;·exact hc
    ·exact h3 y hy
theorem afA {f:UInt8→Nat} (hf:Hh f) (m:Nat):∀(l:List Nat) (s:PSt),s.d+l.length < 38888886→
 pO f (l.foldl (pK m) s).out≤pO f s.out+8*l.count m∧(l.foldl (pK m) s).done=s.done+l.count m∧
  (l.foldl (pK m) s).d≤s.d+l.length∧(m∈l→(l.foldl (pK m) s).d≤l.length):=by
 intro l;induction l with
 |nil=>intro s h;simp
 |cons c l ih=>
  intro s h;rw[List.foldl_cons,List.length_cons] at*;have hd:(pK m s c).d≤s.d+1:=by unfold pK;by_cases h1:c < m<;>by_cases h2:c=m<;>simp[h1,h2]
  obtain⟨h1,h2,h3,h4⟩:=ih (pK m s c) (by omega);by_cases hc:c=m
  ·subst hc;have hz:(pK c s c).d=0:=by unfold pK;simp
   have hn:(pK c s c).done=s.done+1:=by unfold pK;simp
   have ho:pO f (pK c s c).out≤pO f s.out+8:=by unfold pK;simp only[Nat.lt_irrefl,if_false,if_true,yV];have:=U0 hf 0 s.d s.bJ (by omega);omega
   rw[List.count_cons_self];refine⟨by omega,by omega,by omega,fun _=>by omega⟩
  ·have hn:(pK m s c).done=s.done:=by unfold pK;simp[hc]
   have ho:(pK m s c).out=s.out:=by unfold pK;simp[hc]
   rw[List.count_cons_of_ne (by simpa using hc)];rw[ho] at h1;refine⟨h1,by omega,by omega,fun hm=>?_⟩;have:=h4 (by rcases List.mem_cons.mp hm with h|h;exact absurd h.symm hc;exact h);omega
theorem C7 (l:List Nat) (a m:Nat) (hm:a≤m) (hl:∀c∈l,a≤c→m≤c):eK l a=l.count m+eK l (m+1):=by
 induction l with
 |nil=>rfl
 |cons c l ih=>
  have:=ih fun c hc=>hl c (List.mem_cons_of_mem _ hc);have hc:=hl c List.mem_cons_self;unfold eK at*;rw[List.countP_cons,List.countP_cons,List.count_cons];by_cases h1:a≤c
  ·have:=hc h1;by_cases h2:c=m
   ·subst h2;have h3:¬c+1≤c:=by omega
    simp only[h1,h3,decide_true,decide_false,if_true,if_false,beq_self_eq_true];simp;omega
   ·have h3:m+1≤c:=by omega
    simp[h1,h2,h3];omega
  ·have h3:¬m+1≤c:=by omega
   have h2:¬c=m:=by omega
   simp[h1,h2,h3];omega
theorem U1 {f:UInt8→Nat} (hf:Hh f) (l:List Nat) (hl:l.length≤255) (hc:∀c∈l,c≤128511):∀(n sign:Nat) (s:PSt),s.done+eK l sign=l.length→s.d≤256→
 eK l sign≤n→pO f (tF l n sign s).out≤pO f s.out+8*eK l sign:=by
 intro n;induction n with
 |zero=>intro sign s _ _ hn;simp[tF]
 |succ n ih=>
  intro sign s hs hd hn;rw[tF];split
  ·rename_i bC;obtain⟨m,hm,TY,yW,LU⟩:=KH l sign (by omega);simp only[hm,Option.getD_some];have hb:=hc m TY;have hmul:(m - sign)*(s.done+1)≤128511*256:=Nat.mul_le_mul (by omega) (by omega);obtain⟨g1,g2,g3,g4⟩:=afA hf m l {s with d:=s.d+(m - sign)*(s.done+1)} (by show _+_ < _;simp only;omega);have tG:=C7 l sign m yW LU;have C8:0 < l.count m:=List.count_pos_iff.mpr TY;have:=g4 TY;have key:=ih (m+1) {(l.foldl (pK m) {s with d:=s.d+(m - sign)*(s.done+1)}) with d:=(l.foldl (pK m) {s with d:=s.d+(m - sign)*(s.done+1)}).d+1}
    (by simp only[g2];omega) (by show _+1≤_;omega) (by omega)
   refine Nat.le_trans key ?_;show pO f (l.foldl (pK m) _).out+_≤_;simp only at g1;omega
  ·omega
theorem yX (l:List Nat):(fP l).length+eK l 128=l.length:=by
 unfold fP eK;rw[List.length_map];induction l with
 |nil=>rfl
 |cons c l ih=>
  rw[List.filter_cons,List.countP_cons,List.length_cons];by_cases h:c < 128
  ·have h2:¬128≤c:=by omega
   simp[h,h2];omega
  ·have h2:128≤c:=by omega
   simp[h,h2];omega
theorem TZ {f:UInt8→Nat} (hf:Hh f) (l:List Nat) (hl:l.length≤255) (hc:∀c∈l,c≤128511):pO f (CA l)≤pO f (qA l)+8*eK l 128:=by unfold CA;have:=yX l;exact U1 hf l hl hc l.length 128 ⟨0,72,true,(fP l).length,qA l⟩ (by show _+_=_;exact this) (by show(0:Nat)≤256;omega) (by omega)
def cH (l:List UInt8):Nat×Nat:=decodeN l.length (l.getD 0 0).toNat (l.getD 1 0).toNat (l.getD 2 0).toNat (l.getD 3 0).toNat
structure Whole (l:List UInt8) (r k:Nat):Prop where
 pos:1≤k
 le:k≤l.length
 four:k≤4
 stays:∀x,cH (l.take k++x)=(r,k)
 size:k=if r < 128 then 1 else if r < 2048 then 2 else if r < 65536 then 3 else 4
 ok:r < 55296∨(57344≤r∧r≤1114111)
 low:r < 128→k=1∧(l.getD 0 0).toNat=r
 high:128≤r→2≤k∧192≤(l.getD 0 0).toNat∧∀j,1≤j→j < k→128≤(l.getD j 0).toNat∧(l.getD j 0).toNat < 192
theorem JX {l x:List UInt8} {k j:Nat} (hj:j < k) (hk:k≤l.length):(l.take k++x).getD j 0=l.getD j 0:=by rw[List.getD_eq_getElem?_getD,List.getD_eq_getElem?_getD,List.getElem?_append_left (by rw[List.length_take];omega),List.getElem?_take_of_lt hj]
theorem jZ (l:List UInt8) (eG:l≠[]) (r k:Nat) (h:cH l=(r,k)) (hw:r=65533→k≠1):Whole l r k:=by
 have hn:1≤l.length:=by cases l with
  |nil=>exact absurd rfl eG
  |cons _ _=>simp
 have b0:=(l.getD 0 0).toNat_lt;have b1:=(l.getD 1 0).toNat_lt;have b2:=(l.getD 2 0).toNat_lt;have b3:=(l.getD 3 0).toNat_lt;have T:∀(x:List UInt8) (j k:Nat),j < k→k≤l.length→(l.take k++x).getD j 0=l.getD j 0:=fun x j k h1 h2=>JX h1 h2;have N:∀(x:List UInt8) (k:Nat),k≤l.length→(l.take k++x).length=k+x.length:=fun x k h2=>by rw[List.length_append,List.length_take];omega
 unfold cH decodeN at h;split at h;·rename_i h0;cases h;refine⟨by omega,hn,by omega,fun x=>?_,by(repeat' split)<;>omega,by omega,fun _=>⟨rfl,rfl⟩,fun hh=>by omega⟩;unfold cH decodeN;rw[T x 0 1 (by omega) hn,if_pos h0]
 ·rename_i h0;split at h
  ·rename_i h2;split at h
   ·rename_i h3;cases h;refine⟨by omega,by omega,by omega,fun x=>?_,by(repeat' split)<;>omega,by omega,fun hh=>by omega,fun _=>⟨by omega,by omega,fun j XT Q5=>?_⟩⟩;·unfold cH decodeN;rw[N x 2 (by omega),T x 0 2 (by omega) (by omega),T x 1 2 (by omega) (by omega),if_neg h0,if_pos ⟨h2.1,by omega,h2.2.2⟩,if_pos h3]
    ·have:j=1:=by omega
     subst this;omega
   ·cases h;exact absurd rfl (hw rfl)
  ·rename_i h2;split at h
   ·rename_i h3;split at h
    ·rename_i h4;cases h;refine⟨by omega,by omega,by omega,fun x=>?_,by(repeat' split)<;>omega,by omega,fun hh=>by omega,fun _=>⟨by omega,by omega,fun j XT Q5=>?_⟩⟩;·unfold cH decodeN;rw[N x 3 (by omega),T x 0 3 (by omega) (by omega),T x 1 3 (by omega) (by omega),T x 2 3 (by omega) (by omega),if_neg h0,if_neg (by omega),if_pos ⟨h3.1,⟨by omega,h3.2.1.2⟩,by omega,h3.2.2.2⟩,if_pos h4]
     ·have:j=1∨j=2:=by omega
      rcases this with rfl|rfl<;>omega
    ·cases h;exact absurd rfl (hw rfl)
   ·rename_i h3;split at h
    ·rename_i h4;split at h
     ·rename_i h5;cases h;refine⟨by omega,by omega,by omega,fun x=>?_,by(repeat' split)<;>omega,by omega,fun hh=>by omega,fun _=>⟨by omega,by omega,fun j XT Q5=>?_⟩⟩
      ·unfold cH decodeN;rw[N x 4 (by omega),T x 0 4 (by omega) (by omega),T x 1 4 (by omega) (by omega),T x 2 4 (by omega) (by omega),T x 3 4 (by omega) (by omega),if_neg h0,if_neg (by omega),if_neg (by omega),
        if_pos ⟨h4.1,⟨by omega,h4.2.1.2⟩,⟨by omega,h4.2.2.1.2⟩,by omega,h4.2.2.2.2⟩,if_pos h5]
      ·have:j=1∨j=2∨j=3:=by omega
       rcases this with rfl|rfl|rfl<;>omega
     ·cases h;exact absurd rfl (hw rfl)
    ·cases h;exact absurd rfl (hw rfl)
def eL (c:Nat):Nat×Nat×Nat:=
 if 0xc2≤c∧c≤0xdf then(0x80,0xbf,2) else if c=0xe0 then(0xa0,0xbf,3) else if c=0xed then(0x80,0x9f,3)
 else if 0xe1≤c∧c≤0xef then(0x80,0xbf,3) else if c=0xf0 then(0x90,0xbf,4) else if 0xf1≤c∧c≤0xf3 then(0x80,0xbf,4)
 else if c=0xf4 then(0x80,0x8f,4) else(0,0,1)
def yY:Nat→Nat→Nat→List UInt8→Nat
 |0,_,_,_=>0
 |_+1,_,_,[]=>0
 |m+1,low,high,c::t=>if low≤c.toNat∧c.toNat≤high then 1+yY m 0x80 0xbf t else 0
def lA:List UInt8→Nat
 |[]=>1
 |c::t=>1+yY ((eL c.toNat).2.2 - 1) (eL c.toNat).1 (eL c.toNat).2.1 t
theorem yZ (l:List UInt8):1≤lA l:=by cases l<;>simp[lA]
theorem abK:∀(m low high:Nat) (l:List UInt8),yY m low high l≤l.length:=by
 intro m;induction m with
 |zero=>intro _ _ l;simp[yY]
 |succ m ih=>
  intro low high l;cases l with
  |nil=>simp[yY]
  |cons c t=>rw[yY];split
             ·have:=ih 0x80 0xbf t;rw[List.length_cons];omega
             ·omega
theorem KI (l:List UInt8) (h:l≠[]):lA l≤l.length:=by
 cases l with
 |nil=>exact absurd rfl h
 |cons c t=>rw[lA,List.length_cons];have:=abK ((eL c.toNat).2.2 - 1) (eL c.toNat).1 (eL c.toNat).2.1 t;omega
theorem qB (l:List UInt8):1≤(cH l).2:=by
 unfold cH decodeN
 repeat' split
 all_goals omega
attribute [irreducible] cH
def AE:Nat→List UInt8→List UInt8
 |0,_=>[]
 |n+1,l=>if l=[] then[] else
  if(cH l).1=65533∧(cH l).2=1 then[0xef,0xbf,0xbd]++AE n (l.drop (lA l))
  else l.take (cH l).2++AE n (l.drop (cH l).2)
def dM (l:List UInt8):List UInt8:=AE l.length l
def zA:Nat→List UInt8→List Nat
 |0,_=>[]
 |n+1,l=>if l=[] then[] else(cH l).1::zA n (l.drop (cH l).2)
def dC (l:List UInt8):List Nat:=zA l.length l
theorem C9:∀(n m:Nat) (l:List UInt8),l.length≤n→l.length≤m→AE n l=AE m l:=by
 intro n;induction n with
 |zero=>intro m l hn hm;have:l=[]:=List.eq_nil_of_length_eq_zero (by omega)
        subst this;cases m<;>simp[AE]
 |succ n ih=>
  intro m l hn hm;cases m with
  |zero=>have:l=[]:=List.eq_nil_of_length_eq_zero (by omega)
         subst this;simp[AE]
  |succ m=>
   rw[AE,AE];by_cases h0:l=[];·simp[h0]
   ·have h1:=qB l;have h2:=yZ l;have hp:0 < l.length:=List.length_pos_iff.mpr h0;rw[if_neg h0,if_neg h0,ih m (l.drop (lA l)) (by rw[List.length_drop];omega) (by rw[List.length_drop];omega),
     ih m (l.drop (cH l).2) (by rw[List.length_drop];omega) (by rw[List.length_drop];omega)]
theorem JY:∀(n m:Nat) (l:List UInt8),l.length≤n→l.length≤m→zA n l=zA m l:=by
 intro n;induction n with
 |zero=>intro m l hn hm;have:l=[]:=List.eq_nil_of_length_eq_zero (by omega)
        subst this;cases m<;>simp[zA]
 |succ n ih=>
  intro m l hn hm;cases m with
  |zero=>have:l=[]:=List.eq_nil_of_length_eq_zero (by omega)
         subst this;simp[zA]
  |succ m=>
   rw[zA,zA];by_cases h0:l=[];·simp[h0]
   ·have h1:=qB l;have hp:0 < l.length:=List.length_pos_iff.mpr h0;rw[if_neg h0,if_neg h0,ih m (l.drop (cH l).2) (by rw[List.length_drop];omega) (by rw[List.length_drop];omega)]
theorem xL {l:List UInt8} (h0:l≠[]) (h:(cH l).1=65533∧(cH l).2=1):dM l=[0xef,0xbf,0xbd]++dM (l.drop (lA l)):=by have hp:0 < l.length:=List.length_pos_iff.mpr h0;have h2:=yZ l;obtain⟨n,hn⟩:∃n,l.length=n+1:=⟨l.length - 1,by omega⟩;unfold dM;rw[hn,AE,if_neg h0,if_pos h,C9 n (l.drop (lA l)).length _ (by rw[List.length_drop];omega) (Nat.le_refl _)]
theorem pP {l:List UInt8} (h0:l≠[]) (h:¬((cH l).1=65533∧(cH l).2=1)):dM l=l.take (cH l).2++dM (l.drop (cH l).2):=by have hp:0 < l.length:=List.length_pos_iff.mpr h0;have h2:=qB l;obtain⟨n,hn⟩:∃n,l.length=n+1:=⟨l.length - 1,by omega⟩;unfold dM;rw[hn,AE,if_neg h0,if_neg h,C9 n (l.drop (cH l).2).length _ (by rw[List.length_drop];omega) (Nat.le_refl _)]
theorem oO:dM []=[]:=rfl
theorem mH:dC []=[]:=rfl
theorem sM {l:List UInt8} (h0:l≠[]):dC l=(cH l).1::dC (l.drop (cH l).2):=by have hp:0 < l.length:=List.length_pos_iff.mpr h0;have h2:=qB l;obtain⟨n,hn⟩:∃n,l.length=n+1:=⟨l.length - 1,by omega⟩;unfold dC;rw[hn,zA,if_neg h0,JY n (l.drop (cH l).2).length _ (by rw[List.length_drop];omega) (Nat.le_refl _)]
theorem BK:∀(n:Nat) (l:List UInt8),l.length≤n→(dM l).length≤3*l.length:=by
 intro n;induction n with
 |zero=>intro l hn;have:l=[]:=List.eq_nil_of_length_eq_zero (by omega)
        subst this;simp[oO]
 |succ n ih=>
  intro l hn;by_cases h0:l=[];·subst h0;simp[oO]
  ·have hp:0 < l.length:=List.length_pos_iff.mpr h0;by_cases hb:(cH l).1=65533∧(cH l).2=1;·have h2:=yZ l;have h3:=KI l h0;have:=ih (l.drop (lA l)) (by rw[List.length_drop];omega);rw[List.length_drop] at this;rw[xL h0 hb,List.length_append];simp only[List.length_cons,List.length_nil];omega
   ·have W:=jZ l h0 _ _ rfl (fun h1 h2=>hb ⟨h1,h2⟩);have:=ih (l.drop (cH l).2) (by rw[List.length_drop];have:=W.pos;omega);rw[List.length_drop] at this;have h3:=W.le;rw[pP h0 hb,List.length_append,List.length_take];omega
def kP (c:Nat):List UInt8:=
 if c < 128 then[UInt8.ofNat c]
 else if c < 2048 then[UInt8.ofNat (192+c / 64),UInt8.ofNat (128+c % 64)]
 else if c < 65536 then[UInt8.ofNat (224+c / 4096),UInt8.ofNat (128+c / 64 % 64),UInt8.ofNat (128+c % 64)]
 else[UInt8.ofNat (240+c / 262144),UInt8.ofNat (128+c / 4096 % 64),UInt8.ofNat (128+c / 64 % 64),UInt8.ofNat (128+c % 64)]
def eA (c:Nat):Prop:=c < 55296∨(57344≤c∧c≤1114111)
theorem uP (c:Nat):(kP c).length=if c < 128 then 1 else if c < 2048 then 2 else if c < 65536 then 3 else 4:=by
 unfold kP
 repeat' split
 all_goals rfl
theorem XU (c:Nat) (h:eA c):Utf8.valid (c:Int)=true:=by unfold eA at h;simp only[Utf8.valid,Bool.or_eq_true,Bool.and_eq_true,decide_eq_true_eq];omega
theorem El (c:Nat) (h:eA c):Utf8.encode (c:Int)=⟨(kP c).toArray⟩:=by
 have hv:=XU c h;unfold Utf8.encode kP;rw[hv,if_pos rfl,Int.toNat_natCast];show(if c < 128 then(⟨#[UInt8.ofNat c]⟩:ByteArray)
  else if c < 2048 then⟨#[UInt8.ofNat (192+c / 64),UInt8.ofNat (128+c % 64)]⟩
  else if c < 65536 then⟨#[UInt8.ofNat (224+c / 4096),UInt8.ofNat (128+c / 64 % 64),UInt8.ofNat (128+c % 64)]⟩
  else⟨#[UInt8.ofNat (240+c / 262144),UInt8.ofNat (128+c / 4096 % 64),UInt8.ofNat (128+c / 64 % 64),UInt8.ofNat (128+c % 64)]⟩)=_
 by_cases h1:c < 128;·rw[if_pos h1,if_pos h1]
 ·rw[if_neg h1,if_neg h1];by_cases h2:c < 2048;·rw[if_pos h2,if_pos h2]
  ·rw[if_neg h2,if_neg h2];by_cases h3:c < 65536;·rw[if_pos h3,if_pos h3]
   ·rw[if_neg h3,if_neg h3]
theorem Da {l:List UInt8} {r k:Nat} (W:Whole l r k) (x:List UInt8):dC (l.take k++x)=r::dC x:=by
 have h1:=W.pos;have h2:=W.le;have eG:l.take k++x≠[]:=by intro h;have:=congrArg List.length h;rw[List.length_append,List.length_take,List.length_nil] at this;omega
 rw[sM eG,W.stays x];show r::dC (List.drop k (l.take k++x))=_;rw[List.drop_append_of_le_length (by rw[List.length_take];omega),List.drop_eq_nil_of_le (by rw[List.length_take];omega),List.nil_append]
theorem Em (x:List UInt8):cH ([0xef,0xbf,0xbd]++x)=(65533,3):=by
 unfold cH;have n:3≤([0xef,0xbf,0xbd]++x).length:=by simp
 generalize ([0xef,0xbf,0xbd]++x).length=m at n;simp only[List.cons_append,List.getD_cons_zero,List.getD_cons_succ];unfold decodeN;have h0:(0xef:UInt8).toNat=239:=rfl;have h1:(0xbf:UInt8).toNat=191:=rfl;have h2:(0xbd:UInt8).toNat=189:=rfl;rw[h0,h1,h2,if_neg (by omega),if_neg (by omega),if_pos (by omega),if_pos (by omega)]
theorem Fv (x:List UInt8):dC ([0xef,0xbf,0xbd]++x)=65533::dC x:=by rw[sM (by simp),Em];rfl
def NJ (f:Nat→Nat) (l:List Nat):Nat:=(l.map f).sum
theorem KJ (f:Nat→Nat) (c:Nat) (l:List Nat):NJ f (c::l)=f c+NJ f l:=by simp[NJ]
theorem NK:∀(n:Nat) (l:List UInt8),l.length≤n→(∀c∈dC (dM l),c≠65533)→NJ (fun c=>(kP c).length) (dC (dM l))≤l.length:=by
 intro n;induction n with
 |zero=>intro l hn _;have:l=[]:=List.eq_nil_of_length_eq_zero (by omega)
        subst this;simp[oO,mH,NJ]
 |succ n ih=>
  intro l hn hs;by_cases h0:l=[];·subst h0;simp[oO,mH,NJ]
  ·by_cases hb:(cH l).1=65533∧(cH l).2=1;·rw[xL h0 hb,Fv] at hs;exact absurd rfl (hs 65533 List.mem_cons_self)
   ·have W:=jZ l h0 _ _ rfl (fun h1 h2=>hb ⟨h1,h2⟩);rw[pP h0 hb,Da W] at hs⊢;have h1:=W.pos;have h2:=W.le;have:=ih (l.drop (cH l).2) (by rw[List.length_drop];omega) (fun c hc=>hs c (List.mem_cons_of_mem _ hc));rw[List.length_drop] at this;rw[KJ,uP,←W.size];omega
def eI:List UInt8→List UInt8
 |[]=>[]
 |c::t=>if c=0 then[0xef,0xbf,0xbd]++eI t else c::eI t
theorem KK:∀(j:Nat) (t:List UInt8),(∀i,i < j→128≤((eI t).getD i 0).toNat∧((eI t).getD i 0).toNat < 192)→
 (eI t).drop j=eI (t.drop j)∧j≤t.length:=by
 intro j;induction j with
 |zero=>intro t _;exact⟨rfl,Nat.zero_le _⟩
 |succ j ih=>
  intro t h;cases t with
  |nil=>have:=(h 0 (by omega)).1
        exact absurd this (by decide)
  |cons c t=>
   by_cases hc:c=0;·have:=(h 0 (by omega)).2;rw[eI,if_pos hc] at this;exact absurd this (by simp)
   ·have e:eI (c::t)=c::eI t:=by rw[eI,if_neg hc]
    rw[e] at h⊢;obtain⟨h1,h2⟩:=ih t (fun i hi=>by have:=h (i+1) (by omega);rwa[List.getD_cons_succ] at this);rw[List.drop_succ_cons,List.drop_succ_cons,List.length_cons];exact⟨h1,by omega⟩
theorem Q6 (c:Nat):(eL c).2.2=1∨(128≤(eL c).1∧(eL c).2.1 < 192):=by
 unfold eL
 repeat' split
 all_goals simp
theorem abL:∀(m low high:Nat) (l:List UInt8),128≤low→high < 192→∀i,i < yY m low high l→128≤(l.getD i 0).toNat∧(l.getD i 0).toNat < 192:=by
 intro m;induction m with
 |zero=>intro low high l _ _ i hi;simp[yY] at hi
 |succ m ih=>
  intro low high l h1 h2 i hi;cases l with
  |nil=>simp[yY] at hi
  |cons c t=>
   rw[yY] at hi;split at hi
   ·rename_i hc;cases i with
    |zero=>rw[List.getD_cons_zero];omega
    |succ i=>rw[List.getD_cons_succ];exact ih 0x80 0xbf t (by omega) (by omega) i (by omega)
   ·omega
theorem En:∀(n:Nat) (r:List UInt8),r.length≤n→(dM (eI r)).length≤3*r.length:=by
 intro n;induction n with
 |zero=>intro r hn;have:r=[]:=List.eq_nil_of_length_eq_zero (by omega)
        subst this;simp[eI,oO]
 |succ n ih=>
  intro r hn;cases r with
  |nil=>simp[eI,oO]
  |cons c t=>
   rw[List.length_cons] at hn;by_cases hc:c=0
   ·have e:eI (c::t)=[0xef,0xbf,0xbd]++eI t:=by rw[eI,if_pos hc]
    rw[e,pP (by simp) (by rw[Em];simp),Em];have:=ih t (by omega);simp only[List.cons_append,List.nil_append,List.take_succ_cons,List.take_zero,List.drop_succ_cons,List.drop_zero,List.length_cons,List.length_nil];omega
   ·have e:eI (c::t)=c::eI t:=by rw[eI,if_neg hc]
    rw[e];by_cases hb:(cH (c::eI t)).1=65533∧(cH (c::eI t)).2=1
    ·rw[xL (by simp) hb];obtain⟨j,hj⟩:∃j,j=yY ((eL c.toNat).2.2 - 1) (eL c.toNat).1 (eL c.toNat).2.1 (eI t):=⟨_,rfl⟩;have amP:lA (c::eI t)=j+1:=by rw[lA,hj];omega
     have GX:∀i,i < j→128≤((eI t).getD i 0).toNat∧((eI t).getD i 0).toNat < 192:=by
      intro i hi;rw[hj] at hi;rcases Q6 c.toNat with h1|⟨h1,h2⟩;·rw[h1] at hi;simp[yY] at hi
      ·exact abL _ _ _ _ h1 h2 i hi
     obtain⟨h1,h2⟩:=KK j t GX;have h3:=ih (t.drop j) (by rw[List.length_drop];omega);rw[List.length_drop] at h3;rw[amP,List.drop_succ_cons,h1,List.length_append,List.length_cons];simp only[List.length_cons,List.length_nil];omega
    ·have W:=jZ (c::eI t) (by simp) _ _ rfl (fun h1 h2=>hb ⟨h1,h2⟩);rw[pP (by simp) hb];have hp:=W.pos;have hl:=W.le;obtain⟨j,hj⟩:∃j,(cH (c::eI t)).2=j+1:=⟨(cH (c::eI t)).2 - 1,by omega⟩;have GX:∀i,i < j→128≤((eI t).getD i 0).toNat∧((eI t).getD i 0).toNat < 192:=by
      intro i hi;by_cases hr:(cH (c::eI t)).1 < 128;·have:=(W.low hr).1;omega
      ·have:=(W.high (by omega)).2.2 (i+1) (by omega) (by omega);rwa[List.getD_cons_succ] at this
     obtain⟨h1,h2⟩:=KK j t GX;have h3:=ih (t.drop j) (by rw[List.length_drop];omega);rw[List.length_drop] at h3;rw[hj,List.drop_succ_cons,h1,List.length_append,List.length_cons,List.length_take];omega
def jH (c a b:Nat):Bool:=decide (a≤c)&&decide (c≤b)
def Hj (c:Nat):Bool:=c==0xad||c==0x200b||c==0x2060||c==0xfeff
def eZ:List (Nat×Nat):=[(0,0x7f),(0xdf,0xf6),(0xf8,0xff),(0x101,0x12f),(0x300,0x36f),
 (0x3b1,0x3c9),(0x430,0x45f),(0x3041,0x3096),(0x30a1,0x30fa),(0x4e00,0x9fff),(0xac00,0xd7a3),(0x1f300,0x1f5ff)]
def cY (c:Nat):Bool:=eZ.any fun r=>jH c r.1 r.2
def Hk (c:Nat):Nat:=if jH (c - 0xfee0) 65 90 then c - 0xfee0+32 else c - 0xfee0
def dD (c:Nat):List UInt8:=
 if jH c 0x41 0x5a||jH c 0xc0 0xd6||jH c 0xd8 0xde||jH c 0x391 0x3a1||jH c 0x3a3 0x3a9||jH c 0x410 0x42f then kP (c+0x20)
 else if jH c 0x100 0x12e&&c % 2==0 then kP (c+1)
 else if c==0x130 then[105,0xcc,0x87]
 else if jH c 0x400 0x40f then kP (c+0x50)
 else if c==0x2024||c==0x3002||c==0xff61 then[46]
 else if c==0x2100 then[97,47,99]
 else if c==0x2105 then[99,47,111]
 else if jH c 0x2460 0x2468 then kP (c - 0x2460+49)
 else if jH c 0xff01 0xff5e then kP (Hk c)
 else if jH c 0x1d7ce 0x1d7ff then kP (48+(c - 0x1d7ce) % 10)
 else[]
def lF (c:Nat):List UInt8×Nat:=
 if dD c≠[] then(dD c,2) else if Hj c then([],3) else if cY c then(kP c,1) else([],0)
def kQ (b:UInt8):Nat:=
 if b.toNat < 128 then(if b.toNat=38∨b.toNat=34∨b.toNat=39∨b.toNat=60∨b.toNat=62∨b.toNat=96∨b.toNat=46 then 5 else 1) else if 192≤b.toNat then 5 else 4
def kR (b:UInt8):Nat:=if b.toNat=38∨b.toNat=34∨b.toNat=39∨b.toNat=60∨b.toNat=62∨b.toNat=96 then 5 else 1
theorem XV (b:UInt8):kQ b≤5:=by unfold kQ;(repeat' split)<;>omega
theorem T0 (b:UInt8) (h:b.toNat < 128):kR b≤kQ b:=by unfold kR kQ;(repeat' split)<;>omega
theorem U2:∀e:Fin 36,kR (pZ e.val)=1:=by decide+kernel
theorem XW:Hh kR:=fun e he=>U2 ⟨e,he⟩
theorem iA {c a b:Nat}:jH c a b=true↔a≤c∧c≤b:=by unfold jH;simp
theorem CB (c x:Nat) (h:(if x < 128 then 1 else if x < 2048 then 2 else if x < 65536 then 3 else 4)≤(if c < 128 then 1 else if c < 2048 then 2 else if c < 65536 then 3 else 4)):
 pO kQ (kP x)≤5*(kP c).length:=by
 have h1:=Q4 kQ 5 (kP x) fun b _=>XV b;rw[uP x] at h1;rw[uP c];omega
theorem abM (c:Nat):1≤(kP c).length:=by rw[uP];(repeat' split)<;>omega
theorem Q7 {x c:Nat} (h:x≤c):(if x < 128 then 1 else if x < 2048 then 2 else if x < 65536 then 3 else 4)≤(if c < 128 then 1 else if c < 2048 then 2 else if c < 65536 then 3 else 4):=by
 repeat' split
 all_goals omega
theorem U3 (c:Nat):pO kQ (dD c)≤5*(kP c).length:=by
 have hp:=abM c;unfold dD;by_cases h1:(jH c 0x41 0x5a||jH c 0xc0 0xd6||jH c 0xd8 0xde||jH c 0x391 0x3a1||jH c 0x3a3 0x3a9||jH c 0x410 0x42f)=true
 ·rw[if_pos h1];simp only[Bool.or_eq_true,iA] at h1;refine CB c (c+0x20) ?_
  repeat' split
  all_goals omega
 rw[if_neg h1];clear h1;by_cases h1:(jH c 0x100 0x12e&&c % 2==0)=true
 ·rw[if_pos h1];simp only[Bool.and_eq_true,iA] at h1;refine CB c (c+1) ?_
  repeat' split
  all_goals omega
 rw[if_neg h1];clear h1;by_cases h1:(c==0x130)=true
 ·rw[if_pos h1];have:c=0x130:=by simpa using h1
  subst this;decide
 rw[if_neg h1];clear h1;by_cases h1:jH c 0x400 0x40f=true
 ·rw[if_pos h1];simp only[iA] at h1;refine CB c (c+0x50) ?_
  repeat' split
  all_goals omega
 rw[if_neg h1];clear h1;by_cases h1:(c==0x2024||c==0x3002||c==0xff61)=true
 ·rw[if_pos h1];have:pO kQ [46]=5:=by decide
  omega
 rw[if_neg h1];clear h1;by_cases h1:(c==0x2100)=true
 ·rw[if_pos h1];have:pO kQ [97,47,99]=3:=by decide
  omega
 rw[if_neg h1];clear h1;by_cases h1:(c==0x2105)=true
 ·rw[if_pos h1];have:pO kQ [99,47,111]=3:=by decide
  omega
 rw[if_neg h1];clear h1;by_cases h1:jH c 0x2460 0x2468=true;·rw[if_pos h1];exact CB c _ (Q7 (by simp only[iA] at h1;omega))
 rw[if_neg h1];clear h1;by_cases h1:jH c 0xff01 0xff5e=true;·rw[if_pos h1];simp only[iA] at h1;refine CB c _ (Q7 ?_);unfold Hk;split<;>omega
 rw[if_neg h1];clear h1;by_cases h1:jH c 0x1d7ce 0x1d7ff=true;·rw[if_pos h1];exact CB c _ (Q7 (by simp only[iA] at h1;omega))
 rw[if_neg h1];simp[pO]
theorem T1 (c:Nat):pO kQ (lF c).1≤5*(kP c).length:=by
 unfold lF;by_cases h1:dD c≠[];·rw[if_pos h1];exact U3 c
 rw[if_neg h1];by_cases h2:Hj c=true;·rw[if_pos h2];simp[pO]
 rw[if_neg h2];by_cases h3:cY c=true;·rw[if_pos h3];exact CB c c (Nat.le_refl _)
 rw[if_neg h3];simp[pO]
theorem KL {c:Nat} (h:cY c=true):c≤128511:=by unfold cY eZ at h;simp only[List.any_cons,List.any_nil,Bool.or_false,Bool.or_eq_true,iA] at h;omega
theorem KM:(lF 65533).2=0:=by decide+kernel
def nW (l:List Nat):Bool:=
 match l with
 |[]=>false
 |a::_=> !jH a 0x300 0x36f&&(l.all fun c=>(lF c).2==1&&c !=46)&&l.any fun c=>decide (0x7f < c)
theorem KN {l:List Nat} (h:nW l=true):(∀c∈l,(lF c).2=1∧c≠46)∧∃c∈l,128≤c:=by
 unfold nW at h;split at h;·simp at h
 ·simp only[Bool.and_eq_true,List.all_eq_true,List.any_eq_true,decide_eq_true_eq,bne_iff_ne,beq_iff_eq,ne_eq] at h;obtain⟨⟨_,h1⟩,c,hc,h2⟩:=h;exact⟨h1,c,hc,by omega⟩
theorem NL {c:Nat} (h:(lF c).2=1):cY c=true:=by
 unfold lF at h;by_cases h1:dD c≠[];·rw[if_pos h1] at h;simp at h
 rw[if_neg h1] at h;by_cases h2:Hj c=true;·rw[if_pos h2] at h;simp at h
 rw[if_neg h2] at h;by_cases h3:cY c=true;·exact h3
 rw[if_neg h3] at h;simp at h
def qC (l:List UInt8):Bool:=l.all fun c=>decide (c.toNat < 128)
def T2:List UInt8:=[120,110,45,45]
def fB (D:List UInt8→Option (List Nat)) (label:List UInt8):Option (List UInt8):=
 if T2.isPrefixOf label then
  (if qC label then(match D (label.drop 4) with
    |some l=>if nW l then some label else none
    |none=>none) else none)
 else if qC label then some label
 else if nW (dC (dM label))&&decide ((dC (dM label)).length≤255) then some (T2++CA (dC (dM label))) else none
def eJ (D:List UInt8→Option (List Nat)):List (List UInt8)→Option (List (List UInt8))
 |[]=>some []
 |p::r=>match fB D p,eJ D r with
  |some a,some b=>some (a::b)
  |_,_=>none
def fZ (q:UInt8):List UInt8→List (List UInt8)
 |[]=>[[]]
 |c::t=>if c=q then[]::fZ q t else match fZ q t with
  |[]=>[[c]]
  |p::r=>(c::p)::r
def vS (q:UInt8):List (List UInt8)→List UInt8
 |[]=>[]
 |[p]=>p
 |p::r=>p++q::vS q r
def rC (l:List Nat):List UInt8:=l.flatMap fun c=>(lF c).1
def nP (D:List UInt8→Option (List Nat)) (s:List UInt8):Option (List UInt8):=
 if(dC (dM s)).any fun c=>(lF c).2==0 then none
 else(eJ D (fZ 46 (rC (dC (dM s))))).map (vS 46)
theorem Cd (f:UInt8→Nat) (l:List UInt8) (k:Nat):pO f l=pO f (l.take k)+pO f (l.drop k):=by rw[←yV,List.take_append_drop]
theorem T3 {l:List UInt8} (h:qC l=true):pO kR l≤pO kQ l:=by
 unfold qC at h;induction l with
 |nil=>simp[pO]
 |cons c t ih=>rw[List.all_cons,Bool.and_eq_true] at h;have h1:c.toNat < 128:=of_decide_eq_true h.1;have h2:=ih h.2;have h3:=T0 c h1;rw[kO,kO];omega
theorem Q8 {r:Nat} {l:List Nat} (h:r < 128):fP (r::l)=UInt8.ofNat r::fP l:=by unfold fP;simp[h]
theorem NM {r:Nat} {l:List Nat} (h:128≤r):fP (r::l)=fP l:=by
 have:¬r < 128:=by omega
 unfold fP;simp[this]
theorem NN {r:Nat} {l:List Nat} (h:r < 128):eK (r::l) 128=eK l 128:=by
 have:¬128≤r:=by omega
 unfold eK;simp[List.countP_cons,this]
theorem LV {r:Nat} {l:List Nat} (h:128≤r):eK (r::l) 128=eK l 128+1:=by unfold eK;simp[List.countP_cons,h]
theorem XX:∀(n:Nat) (l:List UInt8),l.length≤n→(∀c∈dC (dM l),c≠65533)→
 pO kR (fP (dC (dM l)))+9*eK (dC (dM l)) 128≤pO kQ l:=by
 intro n;induction n with
 |zero=>intro l hn _;have:l=[]:=List.eq_nil_of_length_eq_zero (by omega)
        subst this;simp[oO,mH,fP,eK,pO]
 |succ n ih=>
  intro l hn hs;by_cases h0:l=[];·subst h0;simp[oO,mH,fP,eK,pO]
  ·by_cases hb:(cH l).1=65533∧(cH l).2=1;·rw[xL h0 hb,Fv] at hs;exact absurd rfl (hs 65533 List.mem_cons_self)
   ·have W:=jZ l h0 _ _ rfl (fun h1 h2=>hb ⟨h1,h2⟩);rw[pP h0 hb,Da W] at hs⊢;have h1:=W.pos;have h2:=W.le;have key:=ih (l.drop (cH l).2) (by rw[List.length_drop];omega) (fun c hc=>hs c (List.mem_cons_of_mem _ hc));rw[Cd kQ l (cH l).2];by_cases hr:(cH l).1 < 128
    ·obtain⟨hk,AF⟩:=W.low hr;rw[Q8 hr,NN hr,kO];obtain⟨b,t,rfl⟩:∃b t,l=b::t:=by cases l with
      |nil=>exact absurd rfl h0
      |cons b t=>exact⟨b,t,rfl⟩
     rw[List.getD_cons_zero] at AF;have hof:UInt8.ofNat (cH (b::t)).1=b:=by rw[←AF];exact UInt8.ofNat_toNat
     have hw:=T0 b (by omega);have ht:pO kQ (List.take (cH (b::t)).2 (b::t))=kQ b:=by rw[hk];simp[pO]
     rw[hof,ht];omega
    ·obtain⟨hk,LW,lY⟩:=W.high (by omega);rw[NM (by omega),LV (by omega)];have h9:9≤pO kQ (l.take (cH l).2):=by
      have e1:=lY 1 (by omega) (by omega);obtain⟨k,KO⟩:∃k,(cH l).2=k+2:=⟨(cH l).2 - 2,by omega⟩;rw[KO] at h2⊢
      match l,h2,LW,e1 with
      |a::b::t,_,LW,e1=>
       rw[List.getD_cons_zero] at LW;rw[List.getD_cons_succ,List.getD_cons_zero] at e1;rw[List.take_succ_cons,List.take_succ_cons,kO,kO];have ha:kQ a=5:=by unfold kQ;rw[if_neg (by omega),if_pos LW]
       have dE:4≤kQ b:=by unfold kQ;rw[if_neg (by omega)];split<;>omega
       omega
      |[_],h2,_,_=>simp at h2
      |[],h2,_,_=>simp at h2
     omega
theorem Q9 {D:List UInt8→Option (List Nat)} {label t:List UInt8} (h:fB D label=some t):pO kR t≤4+pO kQ label:=by
 unfold fB at h;split at h
 ·split at h
  ·rename_i hl;have:=T3 hl;split at h
   ·split at h;·cases h;omega
    ·cases h
   ·cases h
  ·cases h
 ·split at h;·rename_i hl;have:=T3 hl;cases h;omega
  ·split at h
   ·rename_i hl;rw[Bool.and_eq_true,decide_eq_true_eq] at hl;obtain⟨hl,hlen⟩:=hl;obtain⟨iJ,c,hc,Gl⟩:=KN hl;have hv:∀c∈dC (dM label),c≤128511:=fun c hc=>KL (NL (iJ c hc).1);have wT:∀c∈dC (dM label),c≠65533:=fun c hc h=>by have:=(iJ c hc).1;rw[h,KM] at this;cases this
    have h1:=TZ XW _ hlen hv;have h2:=XX _ label (Nat.le_refl _) wT;have h3:pO kR (qA (dC (dM label)))≤pO kR (fP (dC (dM label)))+1:=by
     unfold qA;split;·simp[pO]
     ·rw[yV];exact Nat.le_refl _
    have h4:1≤eK (dC (dM label)) 128:=by unfold eK;exact List.countP_pos_iff.mpr ⟨c,hc,by simpa using Gl⟩
    cases h;rw[yV];have h5:pO kR T2=4:=by decide
    omega
   ·cases h
theorem BL (q:UInt8) (l:List UInt8):fZ q l≠[]:=by
 cases l with
 |nil=>simp[fZ]
 |cons c t=>rw[fZ];split
            ·simp
            ·split<;>simp
def AG (f:UInt8→Nat) (L:List (List UInt8)):Nat:=(L.map (pO f)).sum
theorem abN (f:UInt8→Nat) (q:UInt8) (l:List UInt8):AG f (fZ q l)+f q*(fZ q l).length=pO f l+f q:=by
 induction l with
 |nil=>simp[fZ,AG,pO]
 |cons c t ih=>
  rw[fZ,kO];by_cases h:c=q;·subst h;rw[if_pos rfl];unfold AG at*;rw[List.map_cons,List.sum_cons,List.length_cons,Nat.mul_add,abJ];omega
  ·rw[if_neg h];cases hc:fZ q t with
   |nil=>exact absurd hc (BL q t)
   |cons p r=>rw[hc] at ih;unfold AG at*;simp only[List.map_cons,List.sum_cons,List.length_cons,kO] at ih⊢;omega
theorem NO (f:UInt8→Nat) (q:UInt8):∀L:List (List UInt8),L≠[]→pO f (vS q L)+f q=AG f L+f q*L.length
 |[],h=>absurd rfl h
 |[p],_=>by simp[vS,AG]
 |p::a::r,_=>by have:=NO f q (a::r) (by simp);unfold AG at*;rw[vS,yV,kO,List.map_cons,List.sum_cons,List.length_cons,Nat.mul_add];omega;simp
theorem Ce {D:List UInt8→Option (List Nat)}:∀{L R:List (List UInt8)},eJ D L=some R→AG kR R≤4*L.length+AG kQ L∧R.length=L.length
 |[],R,h=>by cases h;simp[AG]
 |p::L,R,h=>by
  rw[eJ] at h;split at h;·rename_i a b ha hb;cases h;have h1:=Q9 ha;obtain⟨h2,h3⟩:=Ce hb;unfold AG at*;rw[List.map_cons,List.sum_cons,List.map_cons,List.sum_cons,List.length_cons,List.length_cons];omega
  ·cases h
theorem XY (l:List Nat):pO kQ (rC l)≤5*NJ (fun c=>(kP c).length) l:=by
 unfold rC;induction l with
 |nil=>simp[pO,NJ]
 |cons c t ih=>rw[List.flatMap_cons,yV,KJ,Nat.mul_add];have:=T1 c;omega
theorem BM {D:List UInt8→Option (List Nat)} {s t:List UInt8} (h:nP D s=some t):pO kR t≤5*s.length+4:=by
 unfold nP at h;split at h;·cases h
 ·rename_i hn;have wT:∀c∈dC (dM s),c≠65533:=fun c hc he=>hn (List.any_eq_true.mpr ⟨c,hc,by rw[he,KM];rfl⟩);obtain⟨R,hR,rfl⟩:=Option.map_eq_some_iff.mp h;obtain⟨h1,h2⟩:=Ce hR;have h3:=abN kQ 46 (rC (dC (dM s)));have h4:=XY (dC (dM s));have h5:=NK _ s (Nat.le_refl _) wT;have eG:=BL 46 (rC (dC (dM s)));have C8:1≤(fZ 46 (rC (dC (dM s)))).length:=List.length_pos_iff.mpr eG;have h6:=NO kR 46 R (fun h=>by rw[h] at h2;simp at h2;omega);have w1:kQ 46=5:=by decide
  have w2:kR 46=1:=by decide
  rw[w1] at h3;rw[w2,h2] at h6;omega
structure lJ where
 kind:Nat:=0
 name:List UInt8:=[]
 four:Nat:=0
 six:List Nat:=[0,0,0,0,0,0,0,0]
structure bD where
 scheme:List UInt8:=[]
 user:List UInt8:=[]
 pass:List UInt8:=[]
 host:lJ:={}
 hasPort:Bool:=false
 port:Nat:=0
 opaq:Bool:=false
 flat:List UInt8:=[]
 path:List (List UInt8):=[]
 hasQuery:Bool:=false
 query:List UInt8:=[]
 hasFrag:Bool:=false
 frag:List UInt8:=[]
structure cU where
 hasScheme:Bool:=false
 scheme:List UInt8:=[]
 rest:List UInt8:=[]
 hasQuery:Bool:=false
 query:List UInt8:=[]
 hasFrag:Bool:=false
 frag:List UInt8:=[]
structure AH where
 user:List UInt8:=[]
 pass:List UInt8:=[]
 host:lJ:={}
 hasPort:Bool:=false
 port:Nat:=0
structure Cf where
 enc:Nat→List UInt8→List UInt8
 aV:List UInt8→Bool
 TW:List UInt8→Bool
 normal:List UInt8→Bool
 AJ:List UInt8→Bool
 iG:List UInt8→List (List UInt8)→List (List UInt8)
 dU:List UInt8→List (List UInt8)→List UInt8→List (List UInt8)
 Hl:List UInt8→Bool→Option lJ
 Ah:lJ→List UInt8
 uQ:List UInt8→List UInt8→Option (Bool×Nat)
 itoa:Nat→List UInt8
def aN:List UInt8:=[102,105,108,101]
def Hm:List UInt8:=[108,111,99,97,108,104,111,115,116]
section
variable (J:Cf)
def lZ (u:bD):List UInt8:=if u.opaq then u.flat else u.path.flatMap fun p=>47::p
def xM (u:bD):List UInt8:=if u.user=[]∧u.pass=[] then[] else if u.pass=[] then u.user++[64] else u.user++[58]++u.pass++[64]
def gE (u:bD):List UInt8:=
 if u.host.kind≠0 then[47,47]++xM u++J.Ah u.host++(if u.hasPort then[58]++J.itoa u.port else[])
 else if u.opaq=false∧2≤u.path.length∧u.path.head? =some [] then[47,46] else[]
def aQ (u:bD) (frag:Bool):List UInt8:=
 u.scheme++[58]++gE J u++lZ u++(if u.hasQuery then[63]++u.query else[])++(if u.hasFrag&&frag then[35]++u.frag else[])
def bG (scheme:List UInt8) (p:cU):bD:=
 {scheme:=scheme,hasQuery:=p.hasQuery,query:=J.enc (if J.aV scheme then 3 else 2) p.query,hasFrag:=p.hasFrag,frag:=J.enc 1 p.frag}
def fR (sp:Bool) (c:UInt8):Bool:=c==47||(sp&&c==92)
def cV (scheme s:List UInt8):Nat:=(s.takeWhile (fR (J.aV scheme))).length
def fD (scheme s:List UInt8):List UInt8:=s.drop (cV J scheme s)
def oP (scheme s:List UInt8):List (List UInt8):=J.dU scheme [] (if 0 < cV J scheme s then s.drop 1 else s)
def dN (sp:Bool) (s:List UInt8):List UInt8×List UInt8:=(s.takeWhile fun c=> !fR sp c,s.dropWhile fun c=> !fR sp c)
def kJ (inside:Bool):List UInt8→Option Nat
 |[]=>none
 |c::t=>if c=58∧inside=false then some 0 else(kJ (if c=91 then true else if c=93 then false else inside) t).map (· +1)
def lB (q:UInt8):List UInt8→Option Nat
 |[]=>none
 |c::t=>match lB q t with
  |some k=>some (k+1)
  |none=>if c=q then some 0 else none
def Eo (q:UInt8) (s:List UInt8):List UInt8×List UInt8:=(s.takeWhile (· !=q),(s.dropWhile (· !=q)).drop 1)
def dX (scheme user pass s:List UInt8):Option AH:=
 match kJ false s with
 |some 0=>none
 |some (k+1)=>match J.Hl (s.take (k+1)) (J.aV scheme) with
  |none=>none
  |some h=>match J.uQ scheme (s.drop (k+2)) with
   |none=>none
   |some (has,n)=>some ⟨user,pass,h,has,n⟩
 |none=>match J.Hl s (J.aV scheme) with
  |none=>none
  |some h=>match J.uQ scheme [] with
   |none=>none
   |some (has,n)=>some ⟨user,pass,h,has,n⟩
def fI (scheme s:List UInt8):Option AH:=
 match lB 64 s with
 |some k=>if s.drop (k+1)=[] then none else dX J scheme (J.enc 5 (Eo 58 (s.take k)).1) (J.enc 5 (Eo 58 (s.take k)).2) (s.drop (k+1))
 |none=>dX J scheme [] [] s
def Ho (u:bD) (a:AH) (path:List (List UInt8)):bD:={u with user:=a.user,pass:=a.pass,host:=a.host,hasPort:=a.hasPort,port:=a.port,path:=path}
def Db (u:bD) (s:List UInt8):List (List UInt8):=
 if J.aV u.scheme=true∨(dN (J.aV u.scheme) s).2≠[] then oP J u.scheme (dN (J.aV u.scheme) s).2 else u.path
def tH (u:bD) (s:List UInt8):Option bD:=
 match fI J u.scheme (dN (J.aV u.scheme) s).1 with
 |none=>none
 |some a=>some (Ho u a (Db J u s))
def lK (u b:bD):bD:={u with user:=b.user,pass:=b.pass,host:=b.host,hasPort:=b.hasPort,port:=b.port}
def nC (u b:bD):bD:=
 {u with path:=b.path,hasQuery:=if u.hasQuery then true else b.hasQuery,query:=if u.hasQuery then u.query else b.query}
def rS (p:cU) (f:List UInt8):List UInt8:=
 if(p.hasQuery||p.hasFrag)&&f.getLast? ==some 32 then f.dropLast++[37,50,48] else f
def qD (p:cU):Option bD:=
 let u:=bG J p.scheme p
 if[47,47].isPrefixOf p.rest then tH J u (p.rest.drop 2)
 else if[47].isPrefixOf p.rest then some {u with path:=J.dU u.scheme [] (p.rest.drop 1)}
 else some {u with opaq:=true,flat:=rS p (J.enc 0 p.rest)}
def AK (b:bD) (p:cU):Option bD:=
 if p.hasFrag=false∨p.hasQuery=true∨p.rest≠[] then none else some {b with hasFrag:=true,frag:=J.enc 1 p.frag}
def kL (b:bD) (p:cU):Option bD:=
 let u:=bG J b.scheme p;let n:=cV J u.scheme p.rest
 if 2≤n∧J.aV u.scheme=true then tH J u (fD J u.scheme p.rest)
 else if 2≤n then tH J u (p.rest.drop 2)
 else if n=1 then some {lK u b with path:=J.dU u.scheme [] (p.rest.drop 1)}
 else if p.rest=[] then some (nC (lK u b) b)
 else some {lK u b with path:=J.dU u.scheme (J.iG u.scheme b.path) p.rest}
def qE (u:bD) (s:List UInt8):Option bD:=
 let name:=(dN true s).1;let rest:=(dN true s).2
 if J.TW name then some {u with path:=J.dU u.scheme [] s}
 else if name=[] then some {u with path:=oP J u.scheme rest}
 else match J.Hl name true with
  |none=>none
  |some h=>some {u with host:=if h.kind≠2∨h.name≠Hm then h else u.host,path:=oP J u.scheme rest}
def LX:List (List UInt8)→Bool
 |[]=>false
 |d::_=>J.normal d
def lL (b:bD) (p:cU):Option bD:=
 let u:={bG J aN p with host:={kind:=1}};let frm:=b.scheme==aN;let n:=cV J aN p.rest
 if 2≤n then qE J u (p.rest.drop 2)
 else
  let u:=if frm then{u with host:=b.host} else u
  if n=1 then
   let rest:=p.rest.drop 1;let path:=if frm&&LX J b.path&& !J.AJ rest then b.path.take 1 else[]
   some {u with path:=J.dU aN path rest}
  else if frm&&p.rest==[] then some (nC u b)
  else if frm&& !J.AJ p.rest then some {u with path:=J.dU aN (J.iG aN b.path) p.rest}
  else some {u with path:=J.dU aN [] p.rest}
def kS (b:bD) (p:cU):Option bD:=
 let sp:=p.hasScheme&&J.aV p.scheme
 if(p.hasScheme&&p.scheme==aN)||(!p.hasScheme&& !b.opaq&&b.scheme==aN) then lL J b p
 else if sp&&(p.scheme !=b.scheme||[47,47].isPrefixOf p.rest) then tH J (bG J p.scheme p) (fD J p.scheme p.rest)
 else if p.hasScheme&& !sp then qD J p
 else if b.opaq then AK J b p
 else kL J b p
end
end Go.Proofs.YtmgmclkplepapaaGreatDoor
