/- Part of the proof of TopBoundsUptoCardSaid. Conditions: none beyond the statement. -/
import Init
import Derived.Lib.DecodeN
set_option linter.all false
set_option maxRecDepth 100000
set_option maxHeartbeats 64000000
namespace Go.Proofs.YtmgmclkplepapaaGreatDoor
open Go.Lib
def LQ (sp:Bool) (c:UInt8):Bool:=c==47||(sp&&c==92)
def dU (sp:Bool):List UInt8→List (List UInt8)
 |[]=>[[]]
 |c::r=>if LQ sp c=true then[]::dU sp r else match dU sp r with
  |[]=>[[c]]
  |p::ps=>(c::p)::ps
theorem LR (sp:Bool) (l:List UInt8):dU sp l≠[]:=by
 cases l with
 |nil=>simp[dU]
 |cons c r=>
  unfold dU;split;·simp
  ·split<;>simp
theorem KG (sp:Bool) (l:List UInt8) (c:UInt8) (D:List (List UInt8)) (p:List UInt8) (h:dU sp l=D++[p]):
 dU sp (l++[c])=if LQ sp c=true then D++[p,[]] else D++[p++[c]]:=by
 induction l generalizing D p with
 |nil=>
  have h':([[]]:List (List UInt8))=D++[p]:=h;cases D with
  |nil=>simp at h';subst h';by_cases hs:LQ sp c=true<;>simp[dU,hs]
  |cons d D=>simp at h'
 |cons a r ih=>
  rw[List.cons_append];unfold dU at h⊢;by_cases ha:LQ sp a=true
  ·rw[if_pos ha] at h⊢;cases D with
   |nil=>simp only[List.nil_append] at h;injection h with h1 h2;exact absurd h2 (LR sp r)
   |cons d D=>rw[List.cons_append] at h;injection h with h1 h2;subst h1;rw[ih D p h2];split<;>simp
  ·rw[if_neg ha] at h⊢;cases hr:dU sp r with
   |nil=>exact absurd hr (LR sp r)
   |cons q qs=>
    rw[hr] at h;simp only[] at h;cases D with
    |nil=>simp only[List.nil_append] at h;injection h with h1 h2;subst h1 h2;have:=ih [] q hr;rw[this];by_cases hs:LQ sp c=true<;>simp[hs]
    |cons d D=>rw[List.cons_append] at h;injection h with h1 h2;subst h1;have:=ih (q::D) p (by rw[hr,h2];rfl);rw[this];by_cases hs:LQ sp c=true<;>simp[hs]
section
structure TW where
 Q2:List UInt8→Bool
 dot:List UInt8→Bool
 TX:List UInt8→Bool
 normal:List UInt8→Bool
 enc:List UInt8→List UInt8
 drv:List UInt8→List UInt8
variable (S:TW)
def TY (file:Bool) (out:List (List UInt8)):List (List UInt8):=
 match out with
 |[]=>[]
 |[x]=>if(file&&S.normal x)=true then[x] else[]
 |x::y::r=>(x::y::r).dropLast
def xK (file:Bool) (out:List (List UInt8)) (p:List UInt8):List (List UInt8):=
 if S.Q2 p=true then TY S file out else if S.dot p=true then out
 else if(file&&(out.isEmpty&&S.TX p))=true then out++[S.drv p] else out++[S.enc p]
def Ej (file:Bool) (out:List (List UInt8)) (L:List (List UInt8)):List (List UInt8):=L.foldl (xK S file) out
def sM (p:List UInt8):Bool:=S.Q2 p||S.dot p
def KH (L:List (List UInt8)):List (List UInt8):=
 match L.getLast? with
 |some p=>if sM S p=true then[[]] else[]
 |none=>[]
def Ek (file:Bool) (out:List (List UInt8)) (L:List (List UInt8)):List (List UInt8):=Ej S file out L++KH S L
theorem NI (file:Bool) (out:List (List UInt8)):Ej S file out []=out:=rfl
theorem El (file:Bool) (out:List (List UInt8)) (p:List UInt8) (L:List (List UInt8)):Ej S file out (p::L)=Ej S file (xK S file out p) L:=rfl
theorem XR (file:Bool) (out A B:List (List UInt8)):Ej S file out (A++B)=Ej S file (Ej S file out A) B:=by unfold Ej;rw[List.foldl_append]
theorem LS (file:Bool) (x:List UInt8):TY S file [x]=if(file&&S.normal x)=true then[x] else[]:=rfl
theorem LU (file:Bool) (out:List (List UInt8)):(TY S file out).length≤out.length∧out.length≤(TY S file out).length+1:=by
 match out with
 |[]=>simp[TY]
 |[x]=>rw[LS];split<;>simp
 |x::y::r=>simp[TY]
theorem NJ (file:Bool) (out:List (List UInt8)):TY S file out=out.take (TY S file out).length:=by
 match out with
 |[]=>rfl
 |[x]=>rw[LS];split<;>rfl
 |x::y::r=>show(x::y::r).dropLast=List.take ((x::y::r).dropLast).length (x::y::r);rw[List.length_dropLast,List.dropLast_eq_take]
theorem UZ (file:Bool) (out:List (List UInt8)) (p:List UInt8):(xK S file out p).length≤out.length+1:=by
 unfold xK;have:=LU S file out;split;·omega
 ·split;·omega
  ·split<;>simp
theorem XS (file:Bool) (L out:List (List UInt8)):(Ej S file out L).length≤out.length+L.length:=by
 induction L generalizing out with
 |nil=>simp[Ej]
 |cons p r ih=>rw[El];have h1:=ih (xK S file out p);have h2:=UZ S file out p;simp only[List.length_cons];omega
end
def dV (j bJ:Nat):Nat:=min (max (36*(j+1) - bJ) 1) 26
def qA (d:Nat):UInt8:=if d < 26 then UInt8.ofNat (97+d) else UInt8.ofNat (48+d - 26)
theorem rH (j bJ:Nat):1≤dV j bJ:=by unfold dV;omega
theorem xL (j bJ:Nat):dV j bJ≤26:=by unfold dV;omega
theorem Hh {d b:Nat} (hb:1≤b) (dE:b≤26) (h:b≤d):(d - b) / (36 - b) < d:=by have:(d - b) / (36 - b)≤d - b:=Nat.div_le_self _ _;omega
def jM (j d bJ:Nat):List UInt8:=
 if h:d < dV j bJ then[qA d] else qA (dV j bJ+(d - dV j bJ) % (36 - dV j bJ))::jM (j+1) ((d - dV j bJ) / (36 - dV j bJ)) bJ
termination_by d
decreasing_by exact Hh (rH _ _) (xL _ _) (by omega)
def Gl:Nat→Nat
 |0=>0
 |1=>1
 |2=>36
 |n+1=>10*Gl n+26
theorem U0 (k b d:Nat) (hb:1≤b) (dE:b≤26) (h:d < Gl (k+2)) (hd:b≤d):(d - b) / (36 - b) < Gl (k+1):=by
 rw[Nat.div_lt_iff_lt_mul (by omega)]
 match k,h with
 |0,h=>have h:d < 36:=h;have:Gl (0+1)=1:=rfl;rw[this];omega
 |k+1,h=>
  have h:d < 10*Gl (k+2)+26:=h;have hp:1≤Gl (k+2):=by
   cases k with
   |zero=>decide
   |succ k=>have:Gl (k+1+2)=10*Gl (k+2)+26:=rfl
            omega
  show d - b < Gl (k+2)*(36 - b);obtain⟨c,hc⟩:∃c,c=26 - b:=⟨_,rfl⟩;have h36:36 - b=10+c:=by omega
  have oO:c≤Gl (k+2)*c:=Nat.le_mul_of_pos_left _ hp;rw[h36,Nat.mul_add];omega
theorem Q3:∀(k j d bJ:Nat),d < Gl (k+1)→(jM j d bJ).length≤k+1:=by
 intro k;induction k with
 |zero=>intro j d bJ h;have h0:d < 1:=h;rw[jM,dif_pos (by have:=rH j bJ;omega)];simp
 |succ k ih=>
  intro j d bJ h;rw[jM];split;·simp
  ·rename_i hd;rw[List.length_cons];have:=ih (j+1) _ bJ (U0 k (dV j bJ) d (rH _ _) (xL _ _) h (by omega));omega
theorem C7 (j d bJ:Nat) (h:d < 38888886):(jM j d bJ).length≤8:=
 Q3 7 j d bJ (by have:Gl (7+1)=38888886:=by decide
                 omega)
theorem Q4:∀(m j d bJ:Nat),d≤m→∀c∈jM j d bJ,∃e,e < 36∧c=qA e:=by
 intro m;induction m with
 |zero=>intro j d bJ hd c hc;rw[jM,dif_pos (by have:=rH j bJ;omega)] at hc;exact⟨d,by omega,by simpa using hc⟩
 |succ m ih=>
  intro j d bJ hd c hc;have h1:=rH j bJ;have h2:=xL j bJ;rw[jM] at hc;split at hc;·exact⟨d,by omega,by simpa using hc⟩
  ·rename_i hn;rcases List.mem_cons.mp hc with rfl|hc;·exact⟨_,by have:=Nat.mod_lt (d - dV j bJ) (y:=36 - dV j bJ) (by omega);omega,rfl⟩
   ·exact ih (j+1) _ bJ (by have:=Hh h1 h2 (by omega:dV j bJ≤d);omega) c hc
def pP (f:UInt8→Nat) (l:List UInt8):Nat:=(l.map f).sum
theorem abK (f:UInt8→Nat):pP f []=0:=rfl
theorem kP (f:UInt8→Nat) (c:UInt8) (l:List UInt8):pP f (c::l)=f c+pP f l:=by simp[pP]
theorem yW (f:UInt8→Nat) (a b:List UInt8):pP f (a++b)=pP f a+pP f b:=by simp[pP]
theorem XT (f:UInt8→Nat) (l:List UInt8) (h:∀c∈l,f c=1):pP f l=l.length:=by
 induction l with
 |nil=>rfl
 |cons c l ih=>rw[kP,h c List.mem_cons_self,ih fun c hc=>h c (List.mem_cons_of_mem _ hc),List.length_cons];omega
theorem Q5 (f:UInt8→Nat) (k:Nat) (l:List UInt8) (h:∀c∈l,f c≤k):pP f l≤k*l.length:=by
 induction l with
 |nil=>simp[pP]
 |cons c l ih=>have h1:=h c List.mem_cons_self;have h2:=ih fun c hc=>h c (List.mem_cons_of_mem _ hc);rw[kP,List.length_cons,Nat.mul_add];omega
def Hi (f:UInt8→Nat):Prop:=∀e,e < 36→f (qA e)=1
theorem U1 {f:UInt8→Nat} (hf:Hi f) (j d bJ:Nat) (h:d < 38888886):pP f (jM j d bJ)≤8:=by rw[XT f _ fun c hc=>by obtain⟨e,he,rfl⟩:=Q4 d j d bJ (Nat.le_refl _) c hc;exact hf e he];exact C7 j d bJ h
def fL (d k:Nat):Nat×Nat:=if h:455 < d then fL (d / 35) (k+36) else(d,k)
termination_by d
decreasing_by exact Nat.div_lt_self (by omega) (by omega)
def tW (d n:Nat) (first:Bool):Nat:=
 let e:=if first then d / 700 else d / 2
 let x:=fL (e+e / n) 0
 x.2+36*x.1 / (x.1+38)
structure PSt where
 d:Nat
 bJ:Nat
 first:Bool
 done:Nat
 out:List UInt8
def pL (sign:Nat) (s:PSt) (c:Nat):PSt:=
 let d:=if c < sign then s.d+1 else s.d
 if c=sign then⟨0,tW d (s.done+1) s.first,false,s.done+1,s.out++jM 0 d s.bJ⟩ else{s with d:=d}
def Hj (l:List Nat) (low:Nat):Option Nat:=
 l.foldl (fun f c=>if low≤c then match f with
  |none=>some c
  |some m=>if c < m then some c else some m
  else f) none
def tG (l:List Nat):Nat→Nat→PSt→PSt
 |0,_,s=>s
 |n+1,sign,s=>
  if s.done < l.length then
   let next:=(Hj l sign).getD 0
   let t:=l.foldl (pL next) {s with d:=s.d+(next - sign)*(s.done+1)}
   tG l n (next+1) {t with d:=t.d+1}
  else s
def fP (l:List Nat):List UInt8:=(l.filter fun c=>decide (c < 128)).map UInt8.ofNat
def qB (l:List Nat):List UInt8:=if fP l=[] then[] else fP l++[45]
def CB (l:List Nat):List UInt8:=(tG l l.length 128 ⟨0,72,true,(fP l).length,qB l⟩).out
def eK (l:List Nat) (sign:Nat):Nat:=l.countP fun c=>decide (sign≤c)
theorem KI (l:List Nat) (low:Nat) (h:0 < eK l low):∃m,Hj l low=some m∧m∈l∧low≤m∧∀c∈l,low≤c→m≤c:=by
 suffices H:∀(l:List Nat) (f:Option Nat),(∀m,f=some m→low≤m)→
  (∃m,l.foldl (fun f c=>if low≤c then match f with
    |none=>some c
    |some m=>if c < m then some c else some m
    else f) f=some m∧(f=some m∨m∈l)∧low≤m∧(∀x,f=some x→m≤x)∧∀c∈l,low≤c→m≤c)∨
  (l.foldl (fun f c=>if low≤c then match f with
    |none=>some c
    |some m=>if c < m then some c else some m
    else f) f=none∧f=none∧∀c∈l,¬low≤c) by
  rcases H l none (by simp) with⟨m,h1,h2,h3,_,h5⟩|⟨_,_,h3⟩;·exact⟨m,h1,by simpa using h2,h3,h5⟩
  ·exfalso;unfold eK at h;rw[List.countP_pos_iff] at h;obtain⟨c,hc,hd⟩:=h;exact h3 c hc (by simpa using hd)
 clear h;intro l;induction l with
 |nil=>
  intro f hf;cases f with
  |none=>right;exact⟨rfl,rfl,by simp⟩
  |some m=>left;exact⟨m,rfl,.inl rfl,hf m rfl,by intro x hx;cases hx;omega,by simp⟩
 |cons c l ih=>
  intro f hf;rw[List.foldl_cons];by_cases hc:low≤c
  ·rw[if_pos hc];have key:∀g:Nat,low≤g→(g=c∨f=some g)→(∀x,f=some x→g≤x)→g≤c→
    (∃m,l.foldl (fun f c=>if low≤c then match f with
      |none=>some c
      |some m=>if c < m then some c else some m
      else f) (some g)=some m∧(f=some m∨m∈c::l)∧low≤m∧(∀x,f=some x→m≤x)∧∀y∈c::l,low≤y→m≤y):=by
    intro g hg hor hx hgc;rcases ih (some g) (by intro m hm;cases hm;exact hg) with⟨m,h1,h2,h3,h4,h5⟩|⟨_,hn,_⟩
    ·have hmg:=h4 g rfl;refine⟨m,h1,?_,h3,fun x hfx=>Nat.le_trans hmg (hx x hfx),?_⟩
     ·rcases h2 with h2|h2
      ·cases h2;rcases hor with rfl|h;·right;exact List.mem_cons_self
       ·left;exact h
      ·right;exact List.mem_cons_of_mem _ h2
     ·intro y hy hly;rcases List.mem_cons.mp hy with rfl|hy;·omega
      ·exact h5 y hy hly
    ·cases hn
   cases f with
   |none=>left;exact key c hc (.inl rfl) (by simp) (Nat.le_refl _)
   |some m=>
    have hm:=hf m rfl;show _∨_;by_cases hcm:c < m;·left;have:=key c hc (.inl rfl) (by intro x hx;cases hx;omega) (Nat.le_refl _);simpa only[if_pos hcm] using this
    ·left;have:=key m hm (.inr rfl) (by intro x hx;cases hx;omega) (by omega);simpa only[if_neg hcm] using this
  ·rw[if_neg hc];rcases ih f hf with⟨m,h1,h2,h3,h4,h5⟩|⟨h1,h2,h3⟩
   ·left;refine⟨m,h1,h2.imp id (List.mem_cons_of_mem _),h3,h4,?_⟩;intro y hy hly;rcases List.mem_cons.mp hy with rfl|hy;·exact absurd hly hc
    ·exact h5 y hy hly
   ·right;refine⟨h1,h2,?_⟩;intro y hy;rcases List.mem_cons.mp hy with rfl|hy;·exact hc
    ·exact h3 y hy
theorem afB {f:UInt8→Nat} (hf:Hi f) (m:Nat):∀(l:List Nat) (s:PSt),s.d+l.length < 38888886→
 pP f (l.foldl (pL m) s).out≤pP f s.out+8*l.count m∧(l.foldl (pL m) s).done=s.done+l.count m∧
  (l.foldl (pL m) s).d≤s.d+l.length∧(m∈l→(l.foldl (pL m) s).d≤l.length):=by
 intro l;induction l with
 |nil=>intro s h;simp
 |cons c l ih=>
  intro s h;rw[List.foldl_cons,List.length_cons] at*;have hd:(pL m s c).d≤s.d+1:=by unfold pL;by_cases h1:c < m<;>by_cases h2:c=m<;>simp[h1,h2]
  obtain⟨h1,h2,h3,h4⟩:=ih (pL m s c) (by omega);by_cases hc:c=m
  ·subst hc;have hz:(pL c s c).d=0:=by unfold pL;simp
   have hn:(pL c s c).done=s.done+1:=by unfold pL;simp
   have ho:pP f (pL c s c).out≤pP f s.out+8:=by unfold pL;simp only[Nat.lt_irrefl,if_false,if_true,yW];have:=U1 hf 0 s.d s.bJ (by omega);omega
   rw[List.count_cons_self];refine⟨by omega,by omega,by omega,fun _=>by omega⟩
  ·have hn:(pL m s c).done=s.done:=by unfold pL;simp[hc]
   have ho:(pL m s c).out=s.out:=by unfold pL;simp[hc]
   rw[List.count_cons_of_ne (by simpa using hc)];rw[ho] at h1;refine⟨h1,by omega,by omega,fun hm=>?_⟩;have:=h4 (by rcases List.mem_cons.mp hm with h|h;exact absurd h.symm hc;exact h);omega
theorem C8 (l:List Nat) (a m:Nat) (hm:a≤m) (hl:∀c∈l,a≤c→m≤c):eK l a=l.count m+eK l (m+1):=by
 induction l with
 |nil=>rfl
 |cons c l ih=>
  have:=ih fun c hc=>hl c (List.mem_cons_of_mem _ hc);have hc:=hl c List.mem_cons_self;unfold eK at*;rw[List.countP_cons,List.countP_cons,List.count_cons];by_cases h1:a≤c
  ·have:=hc h1;by_cases h2:c=m
   ·subst h2;have h3:¬c+1≤c:=by omega
    simp only[h1,h3,decide_true,decide_false,if_true,if_false,beq_self_eq_true];simp;omega
   ·have h3:m+1≤c:=by omega
    simp[h1,h2,h3];omega
  ·have h3:¬m+1≤c:=by omega
   have h2:¬c=m:=by omega
   simp[h1,h2,h3];omega
theorem U2 {f:UInt8→Nat} (hf:Hi f) (l:List Nat) (hl:l.length≤255) (hc:∀c∈l,c≤128511):∀(n sign:Nat) (s:PSt),s.done+eK l sign=l.length→s.d≤256→
 eK l sign≤n→pP f (tG l n sign s).out≤pP f s.out+8*eK l sign:=by
 intro n;induction n with
 |zero=>intro sign s _ _ hn;simp[tG]
 |succ n ih=>
  intro sign s hs hd hn;rw[tG];split
  ·rename_i bC;obtain⟨m,hm,TZ,yX,LV⟩:=KI l sign (by omega);simp only[hm,Option.getD_some];have hb:=hc m TZ;have hmul:(m - sign)*(s.done+1)≤128511*256:=Nat.mul_le_mul (by omega) (by omega);obtain⟨g1,g2,g3,g4⟩:=afB hf m l {s with d:=s.d+(m - sign)*(s.done+1)} (by show _+_ < _;simp only;omega);have tH:=C8 l sign m yX LV;have C9:0 < l.count m:=List.count_pos_iff.mpr TZ;have:=g4 TZ;have key:=ih (m+1) {(l.foldl (pL m) {s with d:=s.d+(m - sign)*(s.done+1)}) with d:=(l.foldl (pL m) {s with d:=s.d+(m - sign)*(s.done+1)}).d+1}
    (by simp only[g2];omega) (by show _+1≤_;omega) (by omega)
   refine Nat.le_trans key ?_;show pP f (l.foldl (pL m) _).out+_≤_;simp only at g1;omega
  ·omega
theorem yY (l:List Nat):(fP l).length+eK l 128=l.length:=by
 unfold fP eK;rw[List.length_map];induction l with
 |nil=>rfl
 |cons c l ih=>
  rw[List.filter_cons,List.countP_cons,List.length_cons];by_cases h:c < 128
  ·have h2:¬128≤c:=by omega
   simp[h,h2];omega
  ·have h2:128≤c:=by omega
   simp[h,h2];omega
theorem T0 {f:UInt8→Nat} (hf:Hi f) (l:List Nat) (hl:l.length≤255) (hc:∀c∈l,c≤128511):pP f (CB l)≤pP f (qB l)+8*eK l 128:=by unfold CB;have:=yY l;exact U2 hf l hl hc l.length 128 ⟨0,72,true,(fP l).length,qB l⟩ (by show _+_=_;exact this) (by show(0:Nat)≤256;omega) (by omega)
def cH (l:List UInt8):Nat×Nat:=decodeN l.length (l.getD 0 0).toNat (l.getD 1 0).toNat (l.getD 2 0).toNat (l.getD 3 0).toNat
structure Whole (l:List UInt8) (r k:Nat):Prop where
 pos:1≤k
 le:k≤l.length
 four:k≤4
 stays:∀x,cH (l.take k++x)=(r,k)
 size:k=if r < 128 then 1 else if r < 2048 then 2 else if r < 65536 then 3 else 4
 ok:r < 55296∨(57344≤r∧r≤1114111)
 low:r < 128→k=1∧(l.getD 0 0).toNat=r
 high:128≤r→2≤k∧192≤(l.getD 0 0).toNat∧∀j,1≤j→j < k→128≤(l.getD j 0).toNat∧(l.getD j 0).toNat < 192
theorem JY {l x:List UInt8} {k j:Nat} (hj:j < k) (hk:k≤l.length):(l.take k++x).getD j 0=l.getD j 0:=by rw[List.getD_eq_getElem?_getD,List.getD_eq_getElem?_getD,List.getElem?_append_left (by rw[List.length_take];omega),List.getElem?_take_of_lt hj]
theorem kC (l:List UInt8) (eG:l≠[]) (r k:Nat) (h:cH l=(r,k)) (hw:r=65533→k≠1):Whole l r k:=by
 have hn:1≤l.length:=by cases l with
  |nil=>exact absurd rfl eG
  |cons _ _=>simp
 have b0:=(l.getD 0 0).toNat_lt;have b1:=(l.getD 1 0).toNat_lt;have b2:=(l.getD 2 0).toNat_lt;have b3:=(l.getD 3 0).toNat_lt;have T:∀(x:List UInt8) (j k:Nat),j < k→k≤l.length→(l.take k++x).getD j 0=l.getD j 0:=fun x j k h1 h2=>JY h1 h2;have N:∀(x:List UInt8) (k:Nat),k≤l.length→(l.take k++x).length=k+x.length:=fun x k h2=>by rw[List.length_append,List.length_take];omega
 unfold cH decodeN at h;split at h;·rename_i h0;cases h;refine⟨by omega,hn,by omega,fun x=>?_,by(repeat' split)<;>omega,by omega,fun _=>⟨rfl,rfl⟩,fun hh=>by omega⟩;unfold cH decodeN;rw[T x 0 1 (by omega) hn,if_pos h0]
 ·rename_i h0;split at h
  ·rename_i h2;split at h
   ·rename_i h3;cases h;refine⟨by omega,by omega,by omega,fun x=>?_,by(repeat' split)<;>omega,by omega,fun hh=>by omega,fun _=>⟨by omega,by omega,fun j XU Q6=>?_⟩⟩;·unfold cH decodeN;rw[N x 2 (by omega),T x 0 2 (by omega) (by omega),T x 1 2 (by omega) (by omega),if_neg h0,if_pos ⟨h2.1,by omega,h2.2.2⟩,if_pos h3]
    ·have:j=1:=by omega
     subst this;omega
   ·cases h;exact absurd rfl (hw rfl)
  ·rename_i h2;split at h
   ·rename_i h3;split at h
    ·rename_i h4;cases h;refine⟨by omega,by omega,by omega,fun x=>?_,by(repeat' split)<;>omega,by omega,fun hh=>by omega,fun _=>⟨by omega,by omega,fun j XU Q6=>?_⟩⟩;·unfold cH decodeN;rw[N x 3 (by omega),T x 0 3 (by omega) (by omega),T x 1 3 (by omega) (by omega),T x 2 3 (by omega) (by omega),if_neg h0,if_neg (by omega),if_pos ⟨h3.1,⟨by omega,h3.2.1.2⟩,by omega,h3.2.2.2⟩,if_pos h4]
     ·have:j=1∨j=2:=by omega
      rcases this with rfl|rfl<;>omega
    ·cases h;exact absurd rfl (hw rfl)
   ·rename_i h3;split at h
    ·rename_i h4;split at h
     ·rename_i h5;cases h;refine⟨by omega,by omega,by omega,fun x=>?_,by(repeat' split)<;>omega,by omega,fun hh=>by omega,fun _=>⟨by omega,by omega,fun j XU Q6=>?_⟩⟩
      ·unfold cH decodeN;rw[N x 4 (by omega),T x 0 4 (by omega) (by omega),T x 1 4 (by omega) (by omega),T x 2 4 (by omega) (by omega),T x 3 4 (by omega) (by omega),if_neg h0,if_neg (by omega),if_neg (by omega),
        if_pos ⟨h4.1,⟨by omega,h4.2.1.2⟩,⟨by omega,h4.2.2.1.2⟩,by omega,h4.2.2.2.2⟩,if_pos h5]
      ·have:j=1∨j=2∨j=3:=by omega
       rcases this with rfl|rfl|rfl<;>omega
     ·cases h;exact absurd rfl (hw rfl)
    ·cases h;exact absurd rfl (hw rfl)
def eL (c:Nat):Nat×Nat×Nat:=
 if 0xc2≤c∧c≤0xdf then(0x80,0xbf,2) else if c=0xe0 then(0xa0,0xbf,3) else if c=0xed then(0x80,0x9f,3)
 else if 0xe1≤c∧c≤0xef then(0x80,0xbf,3) else if c=0xf0 then(0x90,0xbf,4) else if 0xf1≤c∧c≤0xf3 then(0x80,0xbf,4)
 else if c=0xf4 then(0x80,0x8f,4) else(0,0,1)
def yZ:Nat→Nat→Nat→List UInt8→Nat
 |0,_,_,_=>0
 |_+1,_,_,[]=>0
 |m+1,low,high,c::t=>if low≤c.toNat∧c.toNat≤high then 1+yZ m 0x80 0xbf t else 0
def lB:List UInt8→Nat
 |[]=>1
 |c::t=>1+yZ ((eL c.toNat).2.2 - 1) (eL c.toNat).1 (eL c.toNat).2.1 t
theorem zA (l:List UInt8):1≤lB l:=by cases l<;>simp[lB]
theorem abL:∀(m low high:Nat) (l:List UInt8),yZ m low high l≤l.length:=by
 intro m;induction m with
 |zero=>intro _ _ l;simp[yZ]
 |succ m ih=>
  intro low high l;cases l with
  |nil=>simp[yZ]
  |cons c t=>rw[yZ];split
             ·have:=ih 0x80 0xbf t;rw[List.length_cons];omega
             ·omega
theorem KJ (l:List UInt8) (h:l≠[]):lB l≤l.length:=by
 cases l with
 |nil=>exact absurd rfl h
 |cons c t=>rw[lB,List.length_cons];have:=abL ((eL c.toNat).2.2 - 1) (eL c.toNat).1 (eL c.toNat).2.1 t;omega
theorem qC (l:List UInt8):1≤(cH l).2:=by
 unfold cH decodeN
 repeat' split
 all_goals omega
attribute [irreducible] cH
def AF:Nat→List UInt8→List UInt8
 |0,_=>[]
 |n+1,l=>if l=[] then[] else
  if(cH l).1=65533∧(cH l).2=1 then[0xef,0xbf,0xbd]++AF n (l.drop (lB l))
  else l.take (cH l).2++AF n (l.drop (cH l).2)
def dM (l:List UInt8):List UInt8:=AF l.length l
def zB:Nat→List UInt8→List Nat
 |0,_=>[]
 |n+1,l=>if l=[] then[] else(cH l).1::zB n (l.drop (cH l).2)
def dC (l:List UInt8):List Nat:=zB l.length l
theorem Da:∀(n m:Nat) (l:List UInt8),l.length≤n→l.length≤m→AF n l=AF m l:=by
 intro n;induction n with
 |zero=>intro m l hn hm;have:l=[]:=List.eq_nil_of_length_eq_zero (by omega)
        subst this;cases m<;>simp[AF]
 |succ n ih=>
  intro m l hn hm;cases m with
  |zero=>have:l=[]:=List.eq_nil_of_length_eq_zero (by omega)
         subst this;simp[AF]
  |succ m=>
   rw[AF,AF];by_cases h0:l=[];·simp[h0]
   ·have h1:=qC l;have h2:=zA l;have hp:0 < l.length:=List.length_pos_iff.mpr h0;rw[if_neg h0,if_neg h0,ih m (l.drop (lB l)) (by rw[List.length_drop];omega) (by rw[List.length_drop];omega),
     ih m (l.drop (cH l).2) (by rw[List.length_drop];omega) (by rw[List.length_drop];omega)]
theorem JZ:∀(n m:Nat) (l:List UInt8),l.length≤n→l.length≤m→zB n l=zB m l:=by
 intro n;induction n with
 |zero=>intro m l hn hm;have:l=[]:=List.eq_nil_of_length_eq_zero (by omega)
        subst this;cases m<;>simp[zB]
 |succ n ih=>
  intro m l hn hm;cases m with
  |zero=>have:l=[]:=List.eq_nil_of_length_eq_zero (by omega)
         subst this;simp[zB]
  |succ m=>
   rw[zB,zB];by_cases h0:l=[];·simp[h0]
   ·have h1:=qC l;have hp:0 < l.length:=List.length_pos_iff.mpr h0;rw[if_neg h0,if_neg h0,ih m (l.drop (cH l).2) (by rw[List.length_drop];omega) (by rw[List.length_drop];omega)]
theorem xM {l:List UInt8} (h0:l≠[]) (h:(cH l).1=65533∧(cH l).2=1):dM l=[0xef,0xbf,0xbd]++dM (l.drop (lB l)):=by have hp:0 < l.length:=List.length_pos_iff.mpr h0;have h2:=zA l;obtain⟨n,hn⟩:∃n,l.length=n+1:=⟨l.length - 1,by omega⟩;unfold dM;rw[hn,AF,if_neg h0,if_pos h,Da n (l.drop (lB l)).length _ (by rw[List.length_drop];omega) (Nat.le_refl _)]
theorem pQ {l:List UInt8} (h0:l≠[]) (h:¬((cH l).1=65533∧(cH l).2=1)):dM l=l.take (cH l).2++dM (l.drop (cH l).2):=by have hp:0 < l.length:=List.length_pos_iff.mpr h0;have h2:=qC l;obtain⟨n,hn⟩:∃n,l.length=n+1:=⟨l.length - 1,by omega⟩;unfold dM;rw[hn,AF,if_neg h0,if_neg h,Da n (l.drop (cH l).2).length _ (by rw[List.length_drop];omega) (Nat.le_refl _)]
theorem oP:dM []=[]:=rfl
theorem mI:dC []=[]:=rfl
theorem sN {l:List UInt8} (h0:l≠[]):dC l=(cH l).1::dC (l.drop (cH l).2):=by have hp:0 < l.length:=List.length_pos_iff.mpr h0;have h2:=qC l;obtain⟨n,hn⟩:∃n,l.length=n+1:=⟨l.length - 1,by omega⟩;unfold dC;rw[hn,zB,if_neg h0,JZ n (l.drop (cH l).2).length _ (by rw[List.length_drop];omega) (Nat.le_refl _)]
theorem BL:∀(n:Nat) (l:List UInt8),l.length≤n→(dM l).length≤3*l.length:=by
 intro n;induction n with
 |zero=>intro l hn;have:l=[]:=List.eq_nil_of_length_eq_zero (by omega)
        subst this;simp[oP]
 |succ n ih=>
  intro l hn;by_cases h0:l=[];·subst h0;simp[oP]
  ·have hp:0 < l.length:=List.length_pos_iff.mpr h0;by_cases hb:(cH l).1=65533∧(cH l).2=1;·have h2:=zA l;have h3:=KJ l h0;have:=ih (l.drop (lB l)) (by rw[List.length_drop];omega);rw[List.length_drop] at this;rw[xM h0 hb,List.length_append];simp only[List.length_cons,List.length_nil];omega
   ·have W:=kC l h0 _ _ rfl (fun h1 h2=>hb ⟨h1,h2⟩);have:=ih (l.drop (cH l).2) (by rw[List.length_drop];have:=W.pos;omega);rw[List.length_drop] at this;have h3:=W.le;rw[pQ h0 hb,List.length_append,List.length_take];omega
def kQ (c:Nat):List UInt8:=
 if c < 128 then[UInt8.ofNat c]
 else if c < 2048 then[UInt8.ofNat (192+c / 64),UInt8.ofNat (128+c % 64)]
 else if c < 65536 then[UInt8.ofNat (224+c / 4096),UInt8.ofNat (128+c / 64 % 64),UInt8.ofNat (128+c % 64)]
 else[UInt8.ofNat (240+c / 262144),UInt8.ofNat (128+c / 4096 % 64),UInt8.ofNat (128+c / 64 % 64),UInt8.ofNat (128+c % 64)]
def eA (c:Nat):Prop:=c < 55296∨(57344≤c∧c≤1114111)
theorem uQ (c:Nat):(kQ c).length=if c < 128 then 1 else if c < 2048 then 2 else if c < 65536 then 3 else 4:=by
 unfold kQ
 repeat' split
 all_goals rfl
theorem XV (c:Nat) (h:eA c):Utf8.valid (c:Int)=true:=by unfold eA at h;simp only[Utf8.valid,Bool.or_eq_true,Bool.and_eq_true,decide_eq_true_eq];omega
theorem Em (c:Nat) (h:eA c):Utf8.encode (c:Int)=⟨(kQ c).toArray⟩:=by
 have hv:=XV c h;unfold Utf8.encode kQ;rw[hv,if_pos rfl,Int.toNat_natCast];show(if c < 128 then(⟨#[UInt8.ofNat c]⟩:ByteArray)
  else if c < 2048 then⟨#[UInt8.ofNat (192+c / 64),UInt8.ofNat (128+c % 64)]⟩
  else if c < 65536 then⟨#[UInt8.ofNat (224+c / 4096),UInt8.ofNat (128+c / 64 % 64),UInt8.ofNat (128+c % 64)]⟩
  else⟨#[UInt8.ofNat (240+c / 262144),UInt8.ofNat (128+c / 4096 % 64),UInt8.ofNat (128+c / 64 % 64),UInt8.ofNat (128+c % 64)]⟩)=_
 by_cases h1:c < 128;·rw[if_pos h1,if_pos h1]
 ·rw[if_neg h1,if_neg h1];by_cases h2:c < 2048;·rw[if_pos h2,if_pos h2]
  ·rw[if_neg h2,if_neg h2];by_cases h3:c < 65536;·rw[if_pos h3,if_pos h3]
   ·rw[if_neg h3,if_neg h3]
theorem Db {l:List UInt8} {r k:Nat} (W:Whole l r k) (x:List UInt8):dC (l.take k++x)=r::dC x:=by
 have h1:=W.pos;have h2:=W.le;have eG:l.take k++x≠[]:=by intro h;have:=congrArg List.length h;rw[List.length_append,List.length_take,List.length_nil] at this;omega
 rw[sN eG,W.stays x];show r::dC (List.drop k (l.take k++x))=_;rw[List.drop_append_of_le_length (by rw[List.length_take];omega),List.drop_eq_nil_of_le (by rw[List.length_take];omega),List.nil_append]
theorem En (x:List UInt8):cH ([0xef,0xbf,0xbd]++x)=(65533,3):=by
 unfold cH;have n:3≤([0xef,0xbf,0xbd]++x).length:=by simp
 generalize ([0xef,0xbf,0xbd]++x).length=m at n;simp only[List.cons_append,List.getD_cons_zero,List.getD_cons_succ];unfold decodeN;have h0:(0xef:UInt8).toNat=239:=rfl;have h1:(0xbf:UInt8).toNat=191:=rfl;have h2:(0xbd:UInt8).toNat=189:=rfl;rw[h0,h1,h2,if_neg (by omega),if_neg (by omega),if_pos (by omega),if_pos (by omega)]
theorem Fw (x:List UInt8):dC ([0xef,0xbf,0xbd]++x)=65533::dC x:=by rw[sN (by simp),En];rfl
def NK (f:Nat→Nat) (l:List Nat):Nat:=(l.map f).sum
theorem KK (f:Nat→Nat) (c:Nat) (l:List Nat):NK f (c::l)=f c+NK f l:=by simp[NK]
theorem NL:∀(n:Nat) (l:List UInt8),l.length≤n→(∀c∈dC (dM l),c≠65533)→NK (fun c=>(kQ c).length) (dC (dM l))≤l.length:=by
 intro n;induction n with
 |zero=>intro l hn _;have:l=[]:=List.eq_nil_of_length_eq_zero (by omega)
        subst this;simp[oP,mI,NK]
 |succ n ih=>
  intro l hn hs;by_cases h0:l=[];·subst h0;simp[oP,mI,NK]
  ·by_cases hb:(cH l).1=65533∧(cH l).2=1;·rw[xM h0 hb,Fw] at hs;exact absurd rfl (hs 65533 List.mem_cons_self)
   ·have W:=kC l h0 _ _ rfl (fun h1 h2=>hb ⟨h1,h2⟩);rw[pQ h0 hb,Db W] at hs⊢;have h1:=W.pos;have h2:=W.le;have:=ih (l.drop (cH l).2) (by rw[List.length_drop];omega) (fun c hc=>hs c (List.mem_cons_of_mem _ hc));rw[List.length_drop] at this;rw[KK,uQ,←W.size];omega
def eI:List UInt8→List UInt8
 |[]=>[]
 |c::t=>if c=0 then[0xef,0xbf,0xbd]++eI t else c::eI t
theorem KL:∀(j:Nat) (t:List UInt8),(∀i,i < j→128≤((eI t).getD i 0).toNat∧((eI t).getD i 0).toNat < 192)→
 (eI t).drop j=eI (t.drop j)∧j≤t.length:=by
 intro j;induction j with
 |zero=>intro t _;exact⟨rfl,Nat.zero_le _⟩
 |succ j ih=>
  intro t h;cases t with
  |nil=>have:=(h 0 (by omega)).1
        exact absurd this (by decide)
  |cons c t=>
   by_cases hc:c=0;·have:=(h 0 (by omega)).2;rw[eI,if_pos hc] at this;exact absurd this (by simp)
   ·have e:eI (c::t)=c::eI t:=by rw[eI,if_neg hc]
    rw[e] at h⊢;obtain⟨h1,h2⟩:=ih t (fun i hi=>by have:=h (i+1) (by omega);rwa[List.getD_cons_succ] at this);rw[List.drop_succ_cons,List.drop_succ_cons,List.length_cons];exact⟨h1,by omega⟩
theorem Q7 (c:Nat):(eL c).2.2=1∨(128≤(eL c).1∧(eL c).2.1 < 192):=by
 unfold eL
 repeat' split
 all_goals simp
theorem abM:∀(m low high:Nat) (l:List UInt8),128≤low→high < 192→∀i,i < yZ m low high l→128≤(l.getD i 0).toNat∧(l.getD i 0).toNat < 192:=by
 intro m;induction m with
 |zero=>intro low high l _ _ i hi;simp[yZ] at hi
 |succ m ih=>
  intro low high l h1 h2 i hi;cases l with
  |nil=>simp[yZ] at hi
  |cons c t=>
   rw[yZ] at hi;split at hi
   ·rename_i hc;cases i with
    |zero=>rw[List.getD_cons_zero];omega
    |succ i=>rw[List.getD_cons_succ];exact ih 0x80 0xbf t (by omega) (by omega) i (by omega)
   ·omega
theorem Eo:∀(n:Nat) (r:List UInt8),r.length≤n→(dM (eI r)).length≤3*r.length:=by
 intro n;induction n with
 |zero=>intro r hn;have:r=[]:=List.eq_nil_of_length_eq_zero (by omega)
        subst this;simp[eI,oP]
 |succ n ih=>
  intro r hn;cases r with
  |nil=>simp[eI,oP]
  |cons c t=>
   rw[List.length_cons] at hn;by_cases hc:c=0
   ·have e:eI (c::t)=[0xef,0xbf,0xbd]++eI t:=by rw[eI,if_pos hc]
    rw[e,pQ (by simp) (by rw[En];simp),En];have:=ih t (by omega);simp only[List.cons_append,List.nil_append,List.take_succ_cons,List.take_zero,List.drop_succ_cons,List.drop_zero,List.length_cons,List.length_nil];omega
   ·have e:eI (c::t)=c::eI t:=by rw[eI,if_neg hc]
    rw[e];by_cases hb:(cH (c::eI t)).1=65533∧(cH (c::eI t)).2=1
    ·rw[xM (by simp) hb];obtain⟨j,hj⟩:∃j,j=yZ ((eL c.toNat).2.2 - 1) (eL c.toNat).1 (eL c.toNat).2.1 (eI t):=⟨_,rfl⟩;have amQ:lB (c::eI t)=j+1:=by rw[lB,hj];omega
     have GY:∀i,i < j→128≤((eI t).getD i 0).toNat∧((eI t).getD i 0).toNat < 192:=by
      intro i hi;rw[hj] at hi;rcases Q7 c.toNat with h1|⟨h1,h2⟩;·rw[h1] at hi;simp[yZ] at hi
      ·exact abM _ _ _ _ h1 h2 i hi
     obtain⟨h1,h2⟩:=KL j t GY;have h3:=ih (t.drop j) (by rw[List.length_drop];omega);rw[List.length_drop] at h3;rw[amQ,List.drop_succ_cons,h1,List.length_append,List.length_cons];simp only[List.length_cons,List.length_nil];omega
    ·have W:=kC (c::eI t) (by simp) _ _ rfl (fun h1 h2=>hb ⟨h1,h2⟩);rw[pQ (by simp) hb];have hp:=W.pos;have hl:=W.le;obtain⟨j,hj⟩:∃j,(cH (c::eI t)).2=j+1:=⟨(cH (c::eI t)).2 - 1,by omega⟩;have GY:∀i,i < j→128≤((eI t).getD i 0).toNat∧((eI t).getD i 0).toNat < 192:=by
      intro i hi;by_cases hr:(cH (c::eI t)).1 < 128;·have:=(W.low hr).1;omega
      ·have:=(W.high (by omega)).2.2 (i+1) (by omega) (by omega);rwa[List.getD_cons_succ] at this
     obtain⟨h1,h2⟩:=KL j t GY;have h3:=ih (t.drop j) (by rw[List.length_drop];omega);rw[List.length_drop] at h3;rw[hj,List.drop_succ_cons,h1,List.length_append,List.length_cons,List.length_take];omega
def jI (c a b:Nat):Bool:=decide (a≤c)&&decide (c≤b)
def Hk (c:Nat):Bool:=c==0xad||c==0x200b||c==0x2060||c==0xfeff
def eZ:List (Nat×Nat):=[(0,0x7f),(0xdf,0xf6),(0xf8,0xff),(0x101,0x12f),(0x300,0x36f),
 (0x3b1,0x3c9),(0x430,0x45f),(0x3041,0x3096),(0x30a1,0x30fa),(0x4e00,0x9fff),(0xac00,0xd7a3),(0x1f300,0x1f5ff)]
def cY (c:Nat):Bool:=eZ.any fun r=>jI c r.1 r.2
def Hl (c:Nat):Nat:=if jI (c - 0xfee0) 65 90 then c - 0xfee0+32 else c - 0xfee0
def dD (c:Nat):List UInt8:=
 if jI c 0x41 0x5a||jI c 0xc0 0xd6||jI c 0xd8 0xde||jI c 0x391 0x3a1||jI c 0x3a3 0x3a9||jI c 0x410 0x42f then kQ (c+0x20)
 else if jI c 0x100 0x12e&&c % 2==0 then kQ (c+1)
 else if c==0x130 then[105,0xcc,0x87]
 else if jI c 0x400 0x40f then kQ (c+0x50)
 else if c==0x2024||c==0x3002||c==0xff61 then[46]
 else if c==0x2100 then[97,47,99]
 else if c==0x2105 then[99,47,111]
 else if jI c 0x2460 0x2468 then kQ (c - 0x2460+49)
 else if jI c 0xff01 0xff5e then kQ (Hl c)
 else if jI c 0x1d7ce 0x1d7ff then kQ (48+(c - 0x1d7ce) % 10)
 else[]
def lG (c:Nat):List UInt8×Nat:=
 if dD c≠[] then(dD c,2) else if Hk c then([],3) else if cY c then(kQ c,1) else([],0)
def kR (b:UInt8):Nat:=
 if b.toNat < 128 then(if b.toNat=38∨b.toNat=34∨b.toNat=39∨b.toNat=60∨b.toNat=62∨b.toNat=96∨b.toNat=46 then 5 else 1) else if 192≤b.toNat then 5 else 4
def kS (b:UInt8):Nat:=if b.toNat=38∨b.toNat=34∨b.toNat=39∨b.toNat=60∨b.toNat=62∨b.toNat=96 then 5 else 1
theorem XW (b:UInt8):kR b≤5:=by unfold kR;(repeat' split)<;>omega
theorem T1 (b:UInt8) (h:b.toNat < 128):kS b≤kR b:=by unfold kS kR;(repeat' split)<;>omega
theorem U3:∀e:Fin 36,kS (qA e.val)=1:=by decide+kernel
theorem XX:Hi kS:=fun e he=>U3 ⟨e,he⟩
theorem iB {c a b:Nat}:jI c a b=true↔a≤c∧c≤b:=by unfold jI;simp
theorem CC (c x:Nat) (h:(if x < 128 then 1 else if x < 2048 then 2 else if x < 65536 then 3 else 4)≤(if c < 128 then 1 else if c < 2048 then 2 else if c < 65536 then 3 else 4)):
 pP kR (kQ x)≤5*(kQ c).length:=by
 have h1:=Q5 kR 5 (kQ x) fun b _=>XW b;rw[uQ x] at h1;rw[uQ c];omega
theorem abN (c:Nat):1≤(kQ c).length:=by rw[uQ];(repeat' split)<;>omega
theorem Q8 {x c:Nat} (h:x≤c):(if x < 128 then 1 else if x < 2048 then 2 else if x < 65536 then 3 else 4)≤(if c < 128 then 1 else if c < 2048 then 2 else if c < 65536 then 3 else 4):=by
 repeat' split
 all_goals omega
theorem U4 (c:Nat):pP kR (dD c)≤5*(kQ c).length:=by
 have hp:=abN c;unfold dD;by_cases h1:(jI c 0x41 0x5a||jI c 0xc0 0xd6||jI c 0xd8 0xde||jI c 0x391 0x3a1||jI c 0x3a3 0x3a9||jI c 0x410 0x42f)=true
 ·rw[if_pos h1];simp only[Bool.or_eq_true,iB] at h1;refine CC c (c+0x20) ?_
  repeat' split
  all_goals omega
 rw[if_neg h1];clear h1;by_cases h1:(jI c 0x100 0x12e&&c % 2==0)=true
 ·rw[if_pos h1];simp only[Bool.and_eq_true,iB] at h1;refine CC c (c+1) ?_
  repeat' split
  all_goals omega
 rw[if_neg h1];clear h1;by_cases h1:(c==0x130)=true
 ·rw[if_pos h1];have:c=0x130:=by simpa using h1
  subst this;decide
 rw[if_neg h1];clear h1;by_cases h1:jI c 0x400 0x40f=true
 ·rw[if_pos h1];simp only[iB] at h1;refine CC c (c+0x50) ?_
  repeat' split
  all_goals omega
 rw[if_neg h1];clear h1;by_cases h1:(c==0x2024||c==0x3002||c==0xff61)=true
 ·rw[if_pos h1];have:pP kR [46]=5:=by decide
  omega
 rw[if_neg h1];clear h1;by_cases h1:(c==0x2100)=true
 ·rw[if_pos h1];have:pP kR [97,47,99]=3:=by decide
  omega
 rw[if_neg h1];clear h1;by_cases h1:(c==0x2105)=true
 ·rw[if_pos h1];have:pP kR [99,47,111]=3:=by decide
  omega
 rw[if_neg h1];clear h1;by_cases h1:jI c 0x2460 0x2468=true;·rw[if_pos h1];exact CC c _ (Q8 (by simp only[iB] at h1;omega))
 rw[if_neg h1];clear h1;by_cases h1:jI c 0xff01 0xff5e=true;·rw[if_pos h1];simp only[iB] at h1;refine CC c _ (Q8 ?_);unfold Hl;split<;>omega
 rw[if_neg h1];clear h1;by_cases h1:jI c 0x1d7ce 0x1d7ff=true;·rw[if_pos h1];exact CC c _ (Q8 (by simp only[iB] at h1;omega))
 rw[if_neg h1];simp[pP]
theorem T2 (c:Nat):pP kR (lG c).1≤5*(kQ c).length:=by
 unfold lG;by_cases h1:dD c≠[];·rw[if_pos h1];exact U4 c
 rw[if_neg h1];by_cases h2:Hk c=true;·rw[if_pos h2];simp[pP]
 rw[if_neg h2];by_cases h3:cY c=true;·rw[if_pos h3];exact CC c c (Nat.le_refl _)
 rw[if_neg h3];simp[pP]
theorem KM {c:Nat} (h:cY c=true):c≤128511:=by unfold cY eZ at h;simp only[List.any_cons,List.any_nil,Bool.or_false,Bool.or_eq_true,iB] at h;omega
theorem KN:(lG 65533).2=0:=by decide+kernel
def nX (l:List Nat):Bool:=
 match l with
 |[]=>false
 |a::_=> !jI a 0x300 0x36f&&(l.all fun c=>(lG c).2==1&&c !=46)&&l.any fun c=>decide (0x7f < c)
theorem KO {l:List Nat} (h:nX l=true):(∀c∈l,(lG c).2=1∧c≠46)∧∃c∈l,128≤c:=by
 unfold nX at h;split at h;·simp at h
 ·simp only[Bool.and_eq_true,List.all_eq_true,List.any_eq_true,decide_eq_true_eq,bne_iff_ne,beq_iff_eq,ne_eq] at h;obtain⟨⟨_,h1⟩,c,hc,h2⟩:=h;exact⟨h1,c,hc,by omega⟩
theorem NM {c:Nat} (h:(lG c).2=1):cY c=true:=by
 unfold lG at h;by_cases h1:dD c≠[];·rw[if_pos h1] at h;simp at h
 rw[if_neg h1] at h;by_cases h2:Hk c=true;·rw[if_pos h2] at h;simp at h
 rw[if_neg h2] at h;by_cases h3:cY c=true;·exact h3
 rw[if_neg h3] at h;simp at h
def qD (l:List UInt8):Bool:=l.all fun c=>decide (c.toNat < 128)
def T3:List UInt8:=[120,110,45,45]
def fB (D:List UInt8→Option (List Nat)) (label:List UInt8):Option (List UInt8):=
 if T3.isPrefixOf label then
  (if qD label then(match D (label.drop 4) with
    |some l=>if nX l then some label else none
    |none=>none) else none)
 else if qD label then some label
 else if nX (dC (dM label))&&decide ((dC (dM label)).length≤255) then some (T3++CB (dC (dM label))) else none
def eJ (D:List UInt8→Option (List Nat)):List (List UInt8)→Option (List (List UInt8))
 |[]=>some []
 |p::r=>match fB D p,eJ D r with
  |some a,some b=>some (a::b)
  |_,_=>none
def fZ (q:UInt8):List UInt8→List (List UInt8)
 |[]=>[[]]
 |c::t=>if c=q then[]::fZ q t else match fZ q t with
  |[]=>[[c]]
  |p::r=>(c::p)::r
def vT (q:UInt8):List (List UInt8)→List UInt8
 |[]=>[]
 |[p]=>p
 |p::r=>p++q::vT q r
def rD (l:List Nat):List UInt8:=l.flatMap fun c=>(lG c).1
def nQ (D:List UInt8→Option (List Nat)) (s:List UInt8):Option (List UInt8):=
 if(dC (dM s)).any fun c=>(lG c).2==0 then none
 else(eJ D (fZ 46 (rD (dC (dM s))))).map (vT 46)
theorem Ce (f:UInt8→Nat) (l:List UInt8) (k:Nat):pP f l=pP f (l.take k)+pP f (l.drop k):=by rw[←yW,List.take_append_drop]
theorem T4 {l:List UInt8} (h:qD l=true):pP kS l≤pP kR l:=by
 unfold qD at h;induction l with
 |nil=>simp[pP]
 |cons c t ih=>rw[List.all_cons,Bool.and_eq_true] at h;have h1:c.toNat < 128:=of_decide_eq_true h.1;have h2:=ih h.2;have h3:=T1 c h1;rw[kP,kP];omega
theorem Q9 {r:Nat} {l:List Nat} (h:r < 128):fP (r::l)=UInt8.ofNat r::fP l:=by unfold fP;simp[h]
theorem NN {r:Nat} {l:List Nat} (h:128≤r):fP (r::l)=fP l:=by
 have:¬r < 128:=by omega
 unfold fP;simp[this]
theorem NO {r:Nat} {l:List Nat} (h:r < 128):eK (r::l) 128=eK l 128:=by
 have:¬128≤r:=by omega
 unfold eK;simp[List.countP_cons,this]
theorem LW {r:Nat} {l:List Nat} (h:128≤r):eK (r::l) 128=eK l 128+1:=by unfold eK;simp[List.countP_cons,h]
theorem XY:∀(n:Nat) (l:List UInt8),l.length≤n→(∀c∈dC (dM l),c≠65533)→
 pP kS (fP (dC (dM l)))+9*eK (dC (dM l)) 128≤pP kR l:=by
 intro n;induction n with
 |zero=>intro l hn _;have:l=[]:=List.eq_nil_of_length_eq_zero (by omega)
        subst this;simp[oP,mI,fP,eK,pP]
 |succ n ih=>
  intro l hn hs;by_cases h0:l=[];·subst h0;simp[oP,mI,fP,eK,pP]
  ·by_cases hb:(cH l).1=65533∧(cH l).2=1;·rw[xM h0 hb,Fw] at hs;exact absurd rfl (hs 65533 List.mem_cons_self)
   ·have W:=kC l h0 _ _ rfl (fun h1 h2=>hb ⟨h1,h2⟩);rw[pQ h0 hb,Db W] at hs⊢;have h1:=W.pos;have h2:=W.le;have key:=ih (l.drop (cH l).2) (by rw[List.length_drop];omega) (fun c hc=>hs c (List.mem_cons_of_mem _ hc));rw[Ce kR l (cH l).2];by_cases hr:(cH l).1 < 128
    ·obtain⟨hk,AG⟩:=W.low hr;rw[Q9 hr,NO hr,kP];obtain⟨b,t,rfl⟩:∃b t,l=b::t:=by cases l with
      |nil=>exact absurd rfl h0
      |cons b t=>exact⟨b,t,rfl⟩
     rw[List.getD_cons_zero] at AG;have hof:UInt8.ofNat (cH (b::t)).1=b:=by rw[←AG];exact UInt8.ofNat_toNat
     have hw:=T1 b (by omega);have ht:pP kR (List.take (cH (b::t)).2 (b::t))=kR b:=by rw[hk];simp[pP]
     rw[hof,ht];omega
    ·obtain⟨hk,LX,lZ⟩:=W.high (by omega);rw[NN (by omega),LW (by omega)];have h9:9≤pP kR (l.take (cH l).2):=by
      have e1:=lZ 1 (by omega) (by omega);obtain⟨k,KP⟩:∃k,(cH l).2=k+2:=⟨(cH l).2 - 2,by omega⟩;rw[KP] at h2⊢
      match l,h2,LX,e1 with
      |a::b::t,_,LX,e1=>
       rw[List.getD_cons_zero] at LX;rw[List.getD_cons_succ,List.getD_cons_zero] at e1;rw[List.take_succ_cons,List.take_succ_cons,kP,kP];have ha:kR a=5:=by unfold kR;rw[if_neg (by omega),if_pos LX]
       have dE:4≤kR b:=by unfold kR;rw[if_neg (by omega)];split<;>omega
       omega
      |[_],h2,_,_=>simp at h2
      |[],h2,_,_=>simp at h2
     omega
theorem Ra {D:List UInt8→Option (List Nat)} {label t:List UInt8} (h:fB D label=some t):pP kS t≤4+pP kR label:=by
 unfold fB at h;split at h
 ·split at h
  ·rename_i hl;have:=T4 hl;split at h
   ·split at h;·cases h;omega
    ·cases h
   ·cases h
  ·cases h
 ·split at h;·rename_i hl;have:=T4 hl;cases h;omega
  ·split at h
   ·rename_i hl;rw[Bool.and_eq_true,decide_eq_true_eq] at hl;obtain⟨hl,hlen⟩:=hl;obtain⟨iK,c,hc,Gm⟩:=KO hl;have hv:∀c∈dC (dM label),c≤128511:=fun c hc=>KM (NM (iK c hc).1);have wU:∀c∈dC (dM label),c≠65533:=fun c hc h=>by have:=(iK c hc).1;rw[h,KN] at this;cases this
    have h1:=T0 XX _ hlen hv;have h2:=XY _ label (Nat.le_refl _) wU;have h3:pP kS (qB (dC (dM label)))≤pP kS (fP (dC (dM label)))+1:=by
     unfold qB;split;·simp[pP]
     ·rw[yW];exact Nat.le_refl _
    have h4:1≤eK (dC (dM label)) 128:=by unfold eK;exact List.countP_pos_iff.mpr ⟨c,hc,by simpa using Gm⟩
    cases h;rw[yW];have h5:pP kS T3=4:=by decide
    omega
   ·cases h
theorem BM (q:UInt8) (l:List UInt8):fZ q l≠[]:=by
 cases l with
 |nil=>simp[fZ]
 |cons c t=>rw[fZ];split
            ·simp
            ·split<;>simp
def AH (f:UInt8→Nat) (L:List (List UInt8)):Nat:=(L.map (pP f)).sum
theorem abO (f:UInt8→Nat) (q:UInt8) (l:List UInt8):AH f (fZ q l)+f q*(fZ q l).length=pP f l+f q:=by
 induction l with
 |nil=>simp[fZ,AH,pP]
 |cons c t ih=>
  rw[fZ,kP];by_cases h:c=q;·subst h;rw[if_pos rfl];unfold AH at*;rw[List.map_cons,List.sum_cons,List.length_cons,Nat.mul_add,abK];omega
  ·rw[if_neg h];cases hc:fZ q t with
   |nil=>exact absurd hc (BM q t)
   |cons p r=>rw[hc] at ih;unfold AH at*;simp only[List.map_cons,List.sum_cons,List.length_cons,kP] at ih⊢;omega
theorem NP (f:UInt8→Nat) (q:UInt8):∀L:List (List UInt8),L≠[]→pP f (vT q L)+f q=AH f L+f q*L.length
 |[],h=>absurd rfl h
 |[p],_=>by simp[vT,AH]
 |p::a::r,_=>by have:=NP f q (a::r) (by simp);unfold AH at*;rw[vT,yW,kP,List.map_cons,List.sum_cons,List.length_cons,Nat.mul_add];omega;simp
theorem Cf {D:List UInt8→Option (List Nat)}:∀{L R:List (List UInt8)},eJ D L=some R→AH kS R≤4*L.length+AH kR L∧R.length=L.length
 |[],R,h=>by cases h;simp[AH]
 |p::L,R,h=>by
  rw[eJ] at h;split at h;·rename_i a b ha hb;cases h;have h1:=Ra ha;obtain⟨h2,h3⟩:=Cf hb;unfold AH at*;rw[List.map_cons,List.sum_cons,List.map_cons,List.sum_cons,List.length_cons,List.length_cons];omega
  ·cases h
theorem XZ (l:List Nat):pP kR (rD l)≤5*NK (fun c=>(kQ c).length) l:=by
 unfold rD;induction l with
 |nil=>simp[pP,NK]
 |cons c t ih=>rw[List.flatMap_cons,yW,KK,Nat.mul_add];have:=T2 c;omega
theorem BN {D:List UInt8→Option (List Nat)} {s t:List UInt8} (h:nQ D s=some t):pP kS t≤5*s.length+4:=by
 unfold nQ at h;split at h;·cases h
 ·rename_i hn;have wU:∀c∈dC (dM s),c≠65533:=fun c hc he=>hn (List.any_eq_true.mpr ⟨c,hc,by rw[he,KN];rfl⟩);obtain⟨R,hR,rfl⟩:=Option.map_eq_some_iff.mp h;obtain⟨h1,h2⟩:=Cf hR;have h3:=abO kR 46 (rD (dC (dM s)));have h4:=XZ (dC (dM s));have h5:=NL _ s (Nat.le_refl _) wU;have eG:=BM 46 (rD (dC (dM s)));have C9:1≤(fZ 46 (rD (dC (dM s)))).length:=List.length_pos_iff.mpr eG;have h6:=NP kS 46 R (fun h=>by rw[h] at h2;simp at h2;omega);have w1:kR 46=5:=by decide
  have w2:kS 46=1:=by decide
  rw[w1] at h3;rw[w2,h2] at h6;omega
structure lK where
 kind:Nat:=0
 name:List UInt8:=[]
 four:Nat:=0
 six:List Nat:=[0,0,0,0,0,0,0,0]
structure bD where
 scheme:List UInt8:=[]
 user:List UInt8:=[]
 pass:List UInt8:=[]
 host:lK:={}
 hasPort:Bool:=false
 port:Nat:=0
 opaq:Bool:=false
 flat:List UInt8:=[]
 path:List (List UInt8):=[]
 hasQuery:Bool:=false
 query:List UInt8:=[]
 hasFrag:Bool:=false
 frag:List UInt8:=[]
structure cU where
 hasScheme:Bool:=false
 scheme:List UInt8:=[]
 rest:List UInt8:=[]
 hasQuery:Bool:=false
 query:List UInt8:=[]
 hasFrag:Bool:=false
 frag:List UInt8:=[]
structure AJ where
 user:List UInt8:=[]
 pass:List UInt8:=[]
 host:lK:={}
 hasPort:Bool:=false
 port:Nat:=0
structure Cg where
 enc:Nat→List UInt8→List UInt8
 aV:List UInt8→Bool
 TX:List UInt8→Bool
 normal:List UInt8→Bool
 AK:List UInt8→Bool
 iH:List UInt8→List (List UInt8)→List (List UInt8)
 dU:List UInt8→List (List UInt8)→List UInt8→List (List UInt8)
 Hm:List UInt8→Bool→Option lK
 Ai:lK→List UInt8
 uR:List UInt8→List UInt8→Option (Bool×Nat)
 itoa:Nat→List UInt8
def aN:List UInt8:=[102,105,108,101]
def Ho:List UInt8:=[108,111,99,97,108,104,111,115,116]
section
variable (J:Cg)
def mA (u:bD):List UInt8:=if u.opaq then u.flat else u.path.flatMap fun p=>47::p
def xN (u:bD):List UInt8:=if u.user=[]∧u.pass=[] then[] else if u.pass=[] then u.user++[64] else u.user++[58]++u.pass++[64]
def gE (u:bD):List UInt8:=
 if u.host.kind≠0 then[47,47]++xN u++J.Ai u.host++(if u.hasPort then[58]++J.itoa u.port else[])
 else if u.opaq=false∧2≤u.path.length∧u.path.head? =some [] then[47,46] else[]
def aQ (u:bD) (frag:Bool):List UInt8:=
 u.scheme++[58]++gE J u++mA u++(if u.hasQuery then[63]++u.query else[])++(if u.hasFrag&&frag then[35]++u.frag else[])
def bG (scheme:List UInt8) (p:cU):bD:=
 {scheme:=scheme,hasQuery:=p.hasQuery,query:=J.enc (if J.aV scheme then 3 else 2) p.query,hasFrag:=p.hasFrag,frag:=J.enc 1 p.frag}
def fR (sp:Bool) (c:UInt8):Bool:=c==47||(sp&&c==92)
def cV (scheme s:List UInt8):Nat:=(s.takeWhile (fR (J.aV scheme))).length
def fD (scheme s:List UInt8):List UInt8:=s.drop (cV J scheme s)
def oQ (scheme s:List UInt8):List (List UInt8):=J.dU scheme [] (if 0 < cV J scheme s then s.drop 1 else s)
def dN (sp:Bool) (s:List UInt8):List UInt8×List UInt8:=(s.takeWhile fun c=> !fR sp c,s.dropWhile fun c=> !fR sp c)
def kK (inside:Bool):List UInt8→Option Nat
 |[]=>none
 |c::t=>if c=58∧inside=false then some 0 else(kK (if c=91 then true else if c=93 then false else inside) t).map (· +1)
def lC (q:UInt8):List UInt8→Option Nat
 |[]=>none
 |c::t=>match lC q t with
  |some k=>some (k+1)
  |none=>if c=q then some 0 else none
def Ep (q:UInt8) (s:List UInt8):List UInt8×List UInt8:=(s.takeWhile (· !=q),(s.dropWhile (· !=q)).drop 1)
def dX (scheme user pass s:List UInt8):Option AJ:=
 match kK false s with
 |some 0=>none
 |some (k+1)=>match J.Hm (s.take (k+1)) (J.aV scheme) with
  |none=>none
  |some h=>match J.uR scheme (s.drop (k+2)) with
   |none=>none
   |some (has,n)=>some ⟨user,pass,h,has,n⟩
 |none=>match J.Hm s (J.aV scheme) with
  |none=>none
  |some h=>match J.uR scheme [] with
   |none=>none
   |some (has,n)=>some ⟨user,pass,h,has,n⟩
def fI (scheme s:List UInt8):Option AJ:=
 match lC 64 s with
 |some k=>if s.drop (k+1)=[] then none else dX J scheme (J.enc 5 (Ep 58 (s.take k)).1) (J.enc 5 (Ep 58 (s.take k)).2) (s.drop (k+1))
 |none=>dX J scheme [] [] s
def Hp (u:bD) (a:AJ) (path:List (List UInt8)):bD:={u with user:=a.user,pass:=a.pass,host:=a.host,hasPort:=a.hasPort,port:=a.port,path:=path}
def Dc (u:bD) (s:List UInt8):List (List UInt8):=
 if J.aV u.scheme=true∨(dN (J.aV u.scheme) s).2≠[] then oQ J u.scheme (dN (J.aV u.scheme) s).2 else u.path
def tI (u:bD) (s:List UInt8):Option bD:=
 match fI J u.scheme (dN (J.aV u.scheme) s).1 with
 |none=>none
 |some a=>some (Hp u a (Dc J u s))
def lL (u b:bD):bD:={u with user:=b.user,pass:=b.pass,host:=b.host,hasPort:=b.hasPort,port:=b.port}
def nD (u b:bD):bD:=
 {u with path:=b.path,hasQuery:=if u.hasQuery then true else b.hasQuery,query:=if u.hasQuery then u.query else b.query}
def rT (p:cU) (f:List UInt8):List UInt8:=
 if(p.hasQuery||p.hasFrag)&&f.getLast? ==some 32 then f.dropLast++[37,50,48] else f
def qE (p:cU):Option bD:=
 let u:=bG J p.scheme p
 if[47,47].isPrefixOf p.rest then tI J u (p.rest.drop 2)
 else if[47].isPrefixOf p.rest then some {u with path:=J.dU u.scheme [] (p.rest.drop 1)}
 else some {u with opaq:=true,flat:=rT p (J.enc 0 p.rest)}
def AL (b:bD) (p:cU):Option bD:=
 if p.hasFrag=false∨p.hasQuery=true∨p.rest≠[] then none else some {b with hasFrag:=true,frag:=J.enc 1 p.frag}
def kM (b:bD) (p:cU):Option bD:=
 let u:=bG J b.scheme p;let n:=cV J u.scheme p.rest
 if 2≤n∧J.aV u.scheme=true then tI J u (fD J u.scheme p.rest)
 else if 2≤n then tI J u (p.rest.drop 2)
 else if n=1 then some {lL u b with path:=J.dU u.scheme [] (p.rest.drop 1)}
 else if p.rest=[] then some (nD (lL u b) b)
 else some {lL u b with path:=J.dU u.scheme (J.iH u.scheme b.path) p.rest}
def qF (u:bD) (s:List UInt8):Option bD:=
 let name:=(dN true s).1;let rest:=(dN true s).2
 if J.TX name then some {u with path:=J.dU u.scheme [] s}
 else if name=[] then some {u with path:=oQ J u.scheme rest}
 else match J.Hm name true with
  |none=>none
  |some h=>some {u with host:=if h.kind≠2∨h.name≠Ho then h else u.host,path:=oQ J u.scheme rest}
def LY:List (List UInt8)→Bool
 |[]=>false
 |d::_=>J.normal d
def lM (b:bD) (p:cU):Option bD:=
 let u:={bG J aN p with host:={kind:=1}};let frm:=b.scheme==aN;let n:=cV J aN p.rest
 if 2≤n then qF J u (p.rest.drop 2)
 else
  let u:=if frm then{u with host:=b.host} else u
  if n=1 then
   let rest:=p.rest.drop 1;let path:=if frm&&LY J b.path&& !J.AK rest then b.path.take 1 else[]
   some {u with path:=J.dU aN path rest}
  else if frm&&p.rest==[] then some (nD u b)
  else if frm&& !J.AK p.rest then some {u with path:=J.dU aN (J.iH aN b.path) p.rest}
  else some {u with path:=J.dU aN [] p.rest}
def kU (b:bD) (p:cU):Option bD:=
 let sp:=p.hasScheme&&J.aV p.scheme
 if(p.hasScheme&&p.scheme==aN)||(!p.hasScheme&& !b.opaq&&b.scheme==aN) then lM J b p
 else if sp&&(p.scheme !=b.scheme||[47,47].isPrefixOf p.rest) then tI J (bG J p.scheme p) (fD J p.scheme p.rest)
 else if p.hasScheme&& !sp then qE J p
 else if b.opaq then AL J b p
 else kM J b p
end
end Go.Proofs.YtmgmclkplepapaaGreatDoor
