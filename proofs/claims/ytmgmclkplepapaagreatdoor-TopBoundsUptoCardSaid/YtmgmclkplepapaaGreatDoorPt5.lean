/- Part of the proof of TopBoundsUptoCardSaid. Conditions: none beyond the statement. -/
import Derived.WalkLawsBesides
import Derived.ShutString
set_option linter.all false
set_option maxRecDepth 100000
set_option maxHeartbeats 64000000
namespace Go.Proofs.YtmgmclkplepapaaGreatDoor
open Go.RowKit
def wA (w:World) (b:Nat) (l:List UInt8):Prop:=
 ∀j (h:j < l.length),w.cell? ⟨b,j,none⟩=some (.int .u8 (l[j].toNat:Int))∧w.frozen? ⟨b,j,none⟩=false
theorem wA.drew {w:World} {b:Nat} {l:List UInt8} (h:wA w b l):wA w.drew b l:=h
theorem wA.set {w:World} {b:Nat} {l:List UInt8} (h:wA w b l) {k:Nat} (hk:k < l.length) (c:UInt8):
 wA (w.setCell ⟨b,k,none⟩ (.int .u8 (c.toNat:Int))) b (l.set k c):=by
 intro j hj;simp only[List.length_set] at hj;obtain⟨h1,h2⟩:=h j hj;refine⟨?_,?_⟩
 ·by_cases e:j=k;·subst e;have hc:=World.cell?_setCell_same w ⟨b,j,none⟩ (Value.int .u8 (c.toNat:Int)) h1;simpa using hc
  ·have hc:=World.cell?_setCell_other w ⟨b,k,none⟩ ⟨b,j,none⟩ (Value.int .u8 (c.toNat:Int)) (by intro hh;injection hh with _ h2;omega);rw[hc,h1,List.getElem_set_ne (by omega)]
 ·simpa using h2
theorem hid {p:Prop} (h:p):Hid p:=h
def Mg (c:UInt8):UInt8:=if 65≤c.toNat∧c.toNat≤90 then c+32 else c
def rI (l:List UInt8):List UInt8:=l.map Mg
def mL (l:List UInt8) (k:Nat):List UInt8:=(l.take k).map Mg++l.drop k
theorem AV (l:List UInt8) (k:Nat):(mL l k).length=l.length:=by simp[mL];omega
theorem Mh (l:List UInt8):mL l 0=l:=by simp[mL]
theorem NZ (l:List UInt8):mL l l.length=rI l:=by simp[mL,rI]
theorem FD (l:List UInt8) (k:Nat) (h:k < l.length):(mL l k)[k]'(by rw[AV];exact h)=l[k]:=by
 have hm:min k l.length=k:=by omega
 simp[mL,List.getElem_append,hm]
theorem Dm (l:List UInt8) (k:Nat) (h:k < l.length):mL l (k+1)=(mL l k).set k (Mg l[k]):=by
 have hl:((l.take k).map Mg).length=k:=by simp;omega
 unfold mL;rw[List.take_succ_eq_append_getElem h,List.drop_eq_getElem_cons h];rw[List.set_append_right _ _ (by omega),hl];simp only[List.map_append,List.map_cons,List.map_nil,Nat.sub_self,List.set_cons_zero,List.append_assoc,List.cons_append,List.nil_append]
theorem abU {c:UInt8} (h:65≤c.toNat∧c.toNat≤90):((Mg c).toNat:Int)=(c.toNat:Int) - 65+97:=by unfold Mg;rw[if_pos h];simp[UInt8.toNat_add];omega
theorem Yb {c:UInt8} (h:¬(65≤c.toNat∧c.toNat≤90)):Mg c=c:=by unfold Mg;rw[if_neg h]
theorem N1 (l:List UInt8) (k:Nat) (h:k < l.length) (hn:¬(65≤l[k].toNat∧l[k].toNat≤90)):mL l (k+1)=mL l k:=by rw[Dm l k h,Yb hn,←FD l k h];exact List.set_getElem_self _
theorem Dn (s:ByteArray) (w:World) (c:Nat) (t:TypeId):wA (w.alloc (.cells (bytesRow s c) t ((bytesRow s c).size,(bytesRow s c).size+1))).drew w.heap.size s.data.toList:=by
 intro j hj;have KW:j < s.data.size:=by simpa using hj
 have bC:j < (bytesRow s c).size:=by unfold bytesRow;simp only[Array.size_append,Array.size_map];omega
 have h1:=World.cell?_alloc_mark w (bytesRow s c) t ((bytesRow s c).size,(bytesRow s c).size+1) j;rw[bytesRow_at s c j KW] at h1;have h2:=World.frozen?_alloc_mark w (bytesRow s c) t (bytesRow s c).size ((bytesRow s c).size+1) j;refine⟨?_,?_⟩;·exact h1
 ·have:decide ((bytesRow s c).size≤j)=false:=by simp;omega
  rw[this] at h2;exact h2
theorem CH (b j:Nat):(⟨b,0,none⟩:Addr).add j=⟨b,j,none⟩:=by
 unfold Addr.add;split;·next h=>rw[h]
 ·simp
theorem Below.made (s:ByteArray) (w:World) (c:Nat) (t:TypeId):Below w.heap.size w (w.alloc (.cells (bytesRow s c) t ((bytesRow s c).size,(bytesRow s c).size+1))).drew:=
 ((Below.refl _ _).alloc (Nat.le_refl _) _).drew
theorem pq:(∀(a:Act) (d:Tmp) (v:Value),a.put (some d) v={a with tmps:=a.tmps.setIfInBounds d v})∧(∀(a:Act) (v:Value),a.put none v=a)∧(∀(l:List Value) (i:Nat) (a:Value),l.toArray.setIfInBounds i a=(l.set i a).toArray)∧(∀(a b:Value) (l:List Value),(a::l).set 0 b=b::l)∧(∀(a b:Value) (l:List Value) (n:Nat),(a::l).set (n+1) b=a::l.set n b):=⟨fun _ _ _=>rfl,fun _ _=>rfl,fun _ _ _=>List.setIfInBounds_toArray ..,fun _ _ _=>rfl,fun _ _ _ _=>rfl⟩
inductive Tg:Nat→Prop|k n:Tg n
section
variable {w w0:World}
theorem aR {w':World} (h:Hid (Below w0.heap.size w0 w)) (k:Below w.heap.size w w'):Hid (Below w0.heap.size w0 w'):=hid (h.out.trans (k.mono h.out.size))
theorem bU {w':World} {n m:Nat} (h:Hid (Below n w0 w)) (k:Below m w w') (l:n≤m):Hid (Below n w0 w'):=hid (h.out.trans (k.mono l))
end
def aA (l:List UInt8):ByteArray:=⟨l.toArray⟩
theorem aC (l:List UInt8):(aA l).data.toList=l:=by simp[aA]
theorem BR (s:ByteArray):aA s.data.toList=s:=by obtain⟨a⟩:=s;simp[aA]
theorem aD (p:List UInt8):(aA p).size=p.length:=by simp[aA,ByteArray.size]
theorem Yc {a b:List UInt8} (h:aA a=aA b):a=b:=by have:=congrArg (fun s:ByteArray=>s.data.toList) h;simpa[aA] using this
theorem Dp (s:ByteArray) (i j:Nat):(s.extract i j).data.toList=(s.data.toList.drop i).take (j - i):=by simp[ByteArray.data_extract,Array.toList_extract,List.extract]
theorem Hv (s:ByteArray) (i:Nat):(s.extract i s.size).data.toList=s.data.toList.drop i:=by rw[Dp,List.take_of_length_le];simp
theorem N2 (s:ByteArray) (i j:Nat):s.extract i j=aA ((s.data.toList.drop i).take (j - i)):=by rw[←Dp,BR]
theorem AW (l:List UInt8) (i j:Nat):(aA l).extract i j=aA ((l.drop i).take (j - i)):=by rw[N2,aC]
theorem cX (l:List UInt8) (i:Nat):(aA l).extract i (aA l).size=aA (l.drop i):=by rw[AW,List.take_of_length_le];rw[aD,List.length_drop];omega
theorem jX (l:List UInt8) (j:Nat):(aA l).extract 0 j=aA (l.take j):=by rw[AW];simp
theorem cC (l:List UInt8):(aA l).toList.isEmpty=l.isEmpty:=by rw[ByteArray.toList_eq,aC]
theorem iM (a b:List UInt8):aA (a++b)=aA a++aA b:=by apply ByteArray.ext;simp[aA]
theorem Dq (l n:List UInt8):((aA l).toList==n)=(l==n):=by rw[ByteArray.toList_eq,aC]
theorem jJ (l:List UInt8) (k:Nat) (h:k < (aA l).size):(aA l)[k]'h=l[k]'(by rwa[aD] at h):=by rfl
theorem iN {l:List UInt8} {k:Nat} (h:k < l.length):∃c:UInt8,l.drop k=c::l.drop (k+1)∧(∀h2:k < (aA l).size,(aA l)[k]'h2=c):=
 ⟨l[k],List.drop_eq_getElem_cons h,fun h2=>jJ l k h2⟩
theorem xX {P:Program} {md:Region.Mode} {ops:Array Oper} {Q:Exit→Act→World→Prop} (Inv:Array Bool→Act→World→Prop)
 (Hw:∀listed a w i,Inv listed a w→i∈Region.ready md ops listed→wpOp P ops Q i (fun a' w'=>Inv (listed.setIfInBounds i true) a' w') a w)
 (Yd:∀listed a w,Inv listed a w→Region.ready md ops listed=[]→Q .normal a w):
 ∀fuel listed a w,(List.range ops.size).countP (fun i=> !listed.getD i true)≤fuel→Inv listed a w→wpAny P md ops Q fuel listed a w:=by
 intro fuel;induction fuel with
 |zero=>
  intro listed a w hc h;have hr:Region.ready md ops listed=[]:=by
   have h0:(List.range ops.size).countP (fun i=> !listed.getD i true)=0:=by omega
   rw[List.countP_eq_zero] at h0;unfold Region.ready;rw[List.filter_eq_nil_iff];intro i hi hh;have:=h0 i hi;simp only[Bool.and_eq_true] at hh;exact this hh.1
  exact⟨hr,Yd _ _ _ h hr⟩
 |succ fuel ih=>
  intro listed a w hc h;refine⟨fun hr=>Yd _ _ _ h hr,fun i hi=>wpOp_mono (fun a' w' h'=>ih _ _ _ ?_ h') (Hw _ _ _ i h hi)⟩;have Rk:=hi;unfold Region.ready at Rk;rw[List.mem_filter] at Rk;obtain⟨hm,hp⟩:=Rk;simp only[Bool.and_eq_true] at hp;have bC:i < ops.size:=by simpa using hm
  have Ua:(!listed.getD i true)=true:=hp.1;have GY:i < listed.size:=by
   by_cases hs:i < listed.size;·exact hs
   ·simp[hs] at Ua
  have key:∀l:List Nat,l.Nodup→i∈l→l.countP (fun k=> !(listed.setIfInBounds i true).getD k true)+1=l.countP (fun k=> !listed.getD k true):=by
   intro l;induction l with
   |nil=>intro _ h;simp at h
   |cons x l ih2=>
    intro hn hx;rw[List.nodup_cons] at hn;by_cases hxi:x=i
    ·subst hxi;have lZ:l.countP (fun k=> !(listed.setIfInBounds x true).getD k true)=l.countP (fun k=> !listed.getD k true):=by apply List.countP_congr;intro k hk;have eG:x≠k:=fun e=>hn.1 (e▸hk);simp[eG]
     rw[List.countP_cons,List.countP_cons,lZ,Ua];simp[GY]
    ·have Ex:i∈l:=by
      rcases List.mem_cons.1 hx with h|h;·exact absurd h.symm hxi
      ·exact h
     have:=ih2 hn.2 Ex;have eG:i≠x:=fun e=>hxi e.symm;rw[List.countP_cons,List.countP_cons];have he:(listed.setIfInBounds i true).getD x true=listed.getD x true:=by simp[eG]
     rw[he];omega
  have:=key _ List.nodup_range (by simpa using bC);omega
theorem nF {ops:Array Oper} {listed:Array Bool} {i:Nat} (h:i∈Region.ready .any ops listed) {o:Oper} (ho:ops[i]? =some o):
 listed.getD i true=false∧∀e∈o.after,Region.binds .any e=true→listed.getD e.on false=true:=by
 unfold Region.ready at h;rw[List.mem_filter] at h;obtain⟨_,hp⟩:=h;simp only[Bool.and_eq_true,ho,Option.map_some,Option.getD_some,Array.all_eq_true_iff_forall_mem,Bool.or_eq_true,Bool.not_eq_true'] at hp;refine⟨by simpa using hp.1,fun e he hb=>?_⟩;rcases hp.2 e he with h|h;·rw[hb] at h;simp at h
 ·exact h
def Rl (P:Program) (ops:Array Oper) (I:World→Prop) (o:Oper) (a:Act) (v:Value):Prop:=
 (Region.wanted o (yielded ops a.tmps)=false∧v=undef)∨
 (Region.wanted o (yielded ops a.tmps)=true∧∀w,I w→o.wp P a w (fun a' w'=>a'=a.put o.dst v∧I w') (fun _ _ _=>False))
def lR (P:Program) (ops:Array Oper) (I:World→Prop) (Fin:Act→Prop):List Oper→Act→Prop
 |[],a=>Fin a
 |o::r,a=>∃v,Rl P ops I o a v∧lR P ops I Fin r (a.put o.dst v)
theorem lR.step {P:Program} {ops:Array Oper} {I:World→Prop} {Fin:Act→Prop} {o:Oper} {r:List Oper} {a:Act} {v:Value} (hw:Region.wanted o (yielded ops a.tmps)=true)
 (h:∀w,I w→o.wp P a w (fun a' w'=>a'=a.put o.dst v∧I w') (fun _ _ _=>False)) (hr:lR P ops I Fin r (a.put o.dst v)):lR P ops I Fin (o::r) a:=
 ⟨v,.inr ⟨hw,h⟩,hr⟩
theorem lR.afC {P:Program} {ops:Array Oper} {I:World→Prop} {Fin:Act→Prop} {o:Oper} {r:List Oper} {a:Act} {v:Value} (hw:Region.wanted o (yielded ops a.tmps)=true)
 (h:∀w,I w→∀K:Act→World→Prop,(∀w',I w'→K (a.put o.dst v) w')→o.wp P a w K (fun _ _ _=>False)) (hr:lR P ops I Fin r (a.put o.dst v)):lR P ops I Fin (o::r) a:=
 .step hw (fun w hI=>h w hI _ fun _ h'=>⟨rfl,h'⟩) hr
theorem lR.skip {P:Program} {ops:Array Oper} {I:World→Prop} {Fin:Act→Prop} {o:Oper} {r:List Oper} {a:Act} (hw:Region.wanted o (yielded ops a.tmps)=false)
 (hr:lR P ops I Fin r (a.put o.dst undef)):lR P ops I Fin (o::r) a:=
 ⟨undef,.inl ⟨hw,rfl⟩,hr⟩
theorem lR.nil {P:Program} {ops:Array Oper} {I:World→Prop} {Fin:Act→Prop} {a:Act} (h:Fin a):lR P ops I Fin [] a:=h
def Ub (ops:Array Oper):Bool:=
 (List.range ops.size).all fun i=>match ops[i]? with
   |none=>true
   |some o=>(o.after.all fun e=>decide (e.on < i))&&(match o.op with| .select .. =>false|_=>true)&&
     ((o.looksAt ops).all fun t=>(List.range ops.size).all fun j=>match ops[j]? with
       |some p=>if p.dst==some t then o.after.any (fun e=>Region.binds .any e&&e.on==j) else true
       |none=>true)&&
     (List.range i).all fun j=>match ops[j]? with
       |some p=>p.dst.isNone||p.dst !=o.dst
       |none=>true
structure Uc (ops:Array Oper):Prop where
 back:∀(i:Nat) (o:Oper),ops[i]? =some o→∀e∈o.after,e.on < i
 plain:∀(i:Nat) (o:Oper),ops[i]? =some o→∀cs b,o.op≠ .select cs b
 ahead:∀(i:Nat) (o:Oper),ops[i]? =some o→∀t∈o.looksAt ops,∀(j:Nat) (p:Oper),ops[j]? =some p→p.dst=some t→∃e∈o.after,Region.binds .any e=true∧e.on=j
 once:∀(i:Nat) (o:Oper) (j:Nat) (p:Oper),ops[i]? =some o→ops[j]? =some p→j < i→∀t,p.dst=some t→o.dst≠some t
theorem Uc.of {ops:Array Oper} (h:Ub ops=true):Uc ops:=by
 have key:∀(i:Nat) (o:Oper),ops[i]? =some o→(∀e∈o.after,e.on < i)∧(∀cs b,o.op≠ .select cs b)∧
  (∀t∈o.looksAt ops,∀(j:Nat) (p:Oper),ops[j]? =some p→p.dst=some t→∃e∈o.after,Region.binds .any e=true∧e.on=j)∧
  (∀(j:Nat) (p:Oper),ops[j]? =some p→j < i→∀t,p.dst=some t→o.dst≠some t):=by
  intro i o ho;have hi:i < ops.size:=(Array.getElem?_eq_some_iff.1 ho).1;unfold Ub at h;rw[List.all_eq_true] at h;have h1:=h i (by simpa using hi);simp only[ho,Bool.and_eq_true] at h1;obtain⟨⟨⟨h2,h3⟩,h4⟩,h5⟩:=h1;refine⟨fun e he=>?_,fun cs b hs=>?_,fun t ht j p hj hp=>?_,fun j p hj bC t hp ho'=>?_⟩;·rw[Array.all_eq_true_iff_forall_mem] at h2;simpa using h2 e he
  ·rw[hs] at h3;simp at h3
  ·rw[List.all_eq_true] at h4;have h6:=h4 t ht;rw[List.all_eq_true] at h6;have hjl:j < ops.size:=(Array.getElem?_eq_some_iff.1 hj).1;have h7:=h6 j (by simpa using hjl);simp only[hj,hp,beq_self_eq_true,if_true,Array.any_eq_true'] at h7;obtain⟨e,he,hb⟩:=h7;simp only[Bool.and_eq_true,beq_iff_eq] at hb;exact⟨e,he,hb.1,hb.2⟩
  ·rw[List.all_eq_true] at h5;have h6:=h5 j (by simpa using bC);simp[hj,hp,ho'] at h6
 exact⟨fun i o ho=>(key i o ho).1,fun i o ho=>(key i o ho).2.1,fun i o ho=>(key i o ho).2.2.1,fun i o j p ho hj bC=>(key i o ho).2.2.2 j p hj bC⟩
theorem sR (a:Act) (d:Option Tmp) (v:Value):(a.put d v).tmps.size=a.tmps.size:=by cases d<;>simp[Act.put]
theorem mX (a:Act) (d:Option Tmp) (v:Value):(a.put d v).defers=a.defers:=by cases d<;>simp[Act.put]
theorem gZ (a:Act) {d:Option Tmp} (v:Value) {t:Tmp} (h:d≠some t):(a.put d v).tmps[t]? =a.tmps[t]? :=by
 cases d with
 |none=>rfl
 |some d=>have:d≠t:=fun e=>h (by rw[e]);simp[Act.put,this]
theorem N3 {a b:Act} (d:Option Tmp) (v:Value) {t:Tmp} (h:d=some t) (hs:a.tmps.size=b.tmps.size):(a.put d v).tmps[t]? =(b.put d v).tmps[t]? :=by subst h;simp[Act.put,Array.getElem?_setIfInBounds,hs]
theorem rU {a b:Act} {d:Option Tmp} {v u:Value} (h:a.put d v=a.put d u) (hs:b.tmps.size=a.tmps.size):b.put d v=b.put d u:=by
 cases d with
 |none=>rfl
 |some d=>
  have h1:=congrArg (fun x:Act=>x.tmps[d]?) h;by_cases hd:d < a.tmps.size;·simp[Act.put,hd] at h1;rw[h1]
  ·have hd':b.tmps.size≤d:=by rw[hs];exact Nat.le_of_not_lt hd
   simp[Act.put,Array.setIfInBounds_eq_of_size_le hd']
theorem lR.wZ {P:Program} {ops:Array Oper} {I:World→Prop} {Fin:Act→Prop}:∀(L:List Oper) (a:Act),lR P ops I Fin L a→
 ∃st:Nat→Act,st 0=a∧Fin (st L.length)∧∀(i:Nat) (o:Oper),L[i]? =some o→∃v,Rl P ops I o (st i) v∧st (i+1)=(st i).put o.dst v
 |[],a,h=>⟨fun _=>a,rfl,h,fun i o h=>by simp at h⟩
 |o::L,a,⟨v,hv,hr⟩=>by
  obtain⟨st,h0,hF,hs⟩:=lR.wZ L _ hr;refine⟨fun k=>match k with|0=>a|k+1=>st k,rfl,hF,fun i p hp=>?_⟩;cases i with
  |zero=>simp at hp;subst hp;exact⟨v,hv,h0⟩
  |succ i=>exact hs i p (by simpa using hp)
structure ajN (ops:Array Oper) (I:World→Prop) (a aF:Act) (listed:Array Bool) (b:Act) (w:World):Prop where
 size:listed.size=ops.size
 defs:b.defers=a.defers
 An:b.tmps.size=a.tmps.size
 world:I w
 done:∀(t:Tmp) (i:Nat) (o:Oper),ops[i]? =some o→o.dst=some t→listed.getD i false=true→b.tmps[t]? =aF.tmps[t]?
 todo:∀t:Tmp,(∀(i:Nat) (o:Oper),ops[i]? =some o→o.dst=some t→listed.getD i false=false)→b.tmps[t]? =a.tmps[t]?
theorem rV {ops:Array Oper} {x y:Array Value} {j:Nat} (h:∀t,((ops[j]?).bind (·.dst))=some t→x[t]? =y[t]?):yielded ops x j=yielded ops y j:=by
 unfold yielded;cases hd:(ops[j]?).bind (·.dst) with
 |none=>rfl
 |some t=>simp only[Option.bind_some,h t hd]
theorem Rm {P:Program} {ops:Array Oper} {Q:Exit→Act→World→Prop} {id:Nat} {a:Act} {w:World} (I:World→Prop) (hm:P.follows .mixedOrders=true) (qK:Ub ops=true)
 (hI:I w.drew) (h:lR P ops I (fun aF=>∀w',I w'→Q .normal aF w') ops.toList a):(Code.region id ops true).wp P Q a w:=by
 have D:=Uc.of qK;obtain⟨st,h0,hF,hs⟩:=lR.wZ _ _ h;have hs':∀(i:Nat) (o:Oper),ops[i]? =some o→∃v,Rl P ops I o (st i) v∧st (i+1)=(st i).put o.dst v:=fun i o ho=>hs i o (by simpa using ho);have hn:ops.toList.length=ops.size:=by simp
 rw[hn] at hF;have sS:∀k,k≤ops.size→(st k).tmps.size=a.tmps.size∧(st k).defers=a.defers:=by
  intro k;induction k with
  |zero=>intro _;rw[h0];exact⟨rfl,rfl⟩
  |succ k ih=>intro hk;obtain⟨v,_,e⟩:=hs' k ops[k] (Array.getElem?_eq_getElem (by omega));rw[e,sR,mX];exact ih (by omega)
 have Ye:∀k,k≤ops.size→∀t:Tmp,(∀(j:Nat) (o:Oper),j < k→ops[j]? =some o→o.dst≠some t)→(st k).tmps[t]? =a.tmps[t]? :=by
  intro k;induction k with
  |zero=>intro _ t _;rw[h0]
  |succ k ih=>intro hk t wU;obtain⟨v,_,e⟩:=hs' k ops[k] (Array.getElem?_eq_getElem (by omega));rw[e,gZ _ _ (wU k ops[k] (by omega) (Array.getElem?_eq_getElem (by omega)))];exact ih (by omega) t fun j o hj=>wU j o (by omega)
 have Hy:∀(i:Nat) (o:Oper) (t:Tmp),ops[i]? =some o→o.dst=some t→∀k,i+1≤k→k≤ops.size→(st k).tmps[t]? =(st (i+1)).tmps[t]? :=by
  intro i o t ho ht k;induction k with
  |zero=>intro h _;omega
  |succ k ih=>
   intro hk jZ;by_cases e:k=i;·subst e;rfl
   ·obtain⟨v,_,e'⟩:=hs' k ops[k] (Array.getElem?_eq_getElem (by omega));rw[e',gZ _ _ (D.once k ops[k] i o (Array.getElem?_eq_getElem (by omega)) ho (by omega) t ht)];exact ih (by omega) (by omega)
 refine wp_region_any hm (xX (ajN ops I a (st ops.size)) ?_ ?_ _ _ _ _ ?_ ?_)
 ·intro listed b w i hinv hi;have bC:i < ops.size:=by have:=(List.mem_filter.1 hi).1;simpa using this
  have ho:ops[i]? =some ops[i]:=Array.getElem?_eq_getElem bC;generalize ops[i]=o at ho;obtain⟨r1,r2⟩:=nF hi ho;obtain⟨v,hv,tH⟩:=hs' i o ho;have Ua:i < listed.size:=by rw[hinv.size];exact bC
  have agree:∀t∈o.looksAt ops,b.tmps[t]? =(st i).tmps[t]? :=by
   intro t ht;by_cases hex:∃(j:Nat) (p:Oper),ops[j]? =some p∧p.dst=some t
   ·obtain⟨j,p,hj,hp⟩:=hex;obtain⟨e,he,hb,pA⟩:=D.ahead i o ho t ht j p hj hp;have hlj:listed.getD j false=true:=by rw[←pA];exact r2 e he hb
    have G0:j < i:=by rw[←pA];exact D.back i o ho e he
    rw[hinv.done t j p hj hp hlj,Hy j p t hj hp ops.size (by omega) (Nat.le_refl _),Hy j p t hj hp i (by omega) (by omega)]
   ·rw[hinv.todo t fun j p hj hp=>absurd ⟨j,p,hj,hp⟩ hex,Ye i (by omega) t fun j p _ hj hp=>hex ⟨j,p,hj,hp⟩]
  have rC:b.tmps.size=(st i).tmps.size:=by rw[hinv.An,(sS i (by omega)).1]
  have uU:∀w',I w'→ajN ops I a (st ops.size) (listed.setIfInBounds i true) (b.put o.dst v) w':=by
   intro w' CI;refine⟨by simpa using hinv.size,by rw[mX];exact hinv.defs,by rw[sR];exact hinv.An,CI,fun t j p hj hp hl=>?_,fun t wU=>?_⟩
   ·by_cases e:j=i;·subst e;rw[ho] at hj;cases hj;rw[Hy j o t ho hp ops.size (by omega) (Nat.le_refl _),tH];exact N3 _ _ hp rC
    ·have eG:o.dst≠some t:=by
      by_cases G0:j < i;·exact D.once i o j p ho hj G0 t hp
      ·exact fun e'=>D.once j p i o hj ho (by omega) t e' hp
     rw[gZ _ _ eG];refine hinv.done t j p hj hp ?_;simpa[Ne.symm e] using hl
   ·have eG:o.dst≠some t:=fun e'=>by have:=wU i o ho e';simp[Ua] at this
    rw[gZ _ _ eG];refine hinv.todo t fun j p hj hp=>?_;have:=wU j p hj hp;by_cases e:j=i;·subst e;rw[ho] at hj;cases hj;exact absurd hp eG
    ·simpa[Ne.symm e] using this
  have xY:Region.wanted o (yielded ops b.tmps)=Region.wanted o (yielded ops (st i).tmps):=by
   unfold Region.wanted;cases hg:o.guard with
   |none=>rfl
   |some g=>obtain⟨j,want⟩:=g;simp only[];rw[rV (x:=b.tmps) (y:=(st i).tmps) (j:=j) fun t ht=>agree t (by simp[Oper.looksAt,hg,ht])]
  unfold wpOp;rw[ho];simp only[];rcases hv with⟨hw,hvu⟩|⟨hw,uV⟩;·rw[xY,hw];subst hvu;exact uU _ hinv.world
  ·rw[xY,hw];simp only[if_true];left;have hev:execOp b.eval o=execOp (st i).eval o:=by
    refine execOp_congr o (D.plain i o ho) fun x hx=>?_;cases x with
    |tmp t=>
     have:=agree t (by
      unfold Oper.looksAt;refine List.mem_append_left _ (List.mem_filterMap.2 ⟨.tmp t,by simpa using hx,rfl⟩))
     simp only[Act.eval,Array.getD_eq_getD_getElem?,this]
    |_=>rfl
   have hr:=uV w hinv.world;unfold Oper.wp at hr⊢;rw[hev];generalize (execOp (st i).eval o).run P w=res at hr;cases res with
   |ok nx w'=>
    cases nx with
    |value u=>simp only[Oper.upon] at hr⊢;rw[rU hr.1 rC];exact uU _ hr.2
    |skip=>simp only[Oper.upon] at hr⊢;rw[rU hr.1 rC];exact uU _ hr.2
    |enter f args=>
     simp only[Oper.upon] at hr⊢;refine Calls.mono hr fun e yT he=>?_;cases e with
     |returned u=>simp only[] at he⊢;rw[rU he.1 rC];exact uU _ he.2
     |panicked ch=>exact absurd he (by simp)
     |outgrown=>simp only[] at he;obtain⟨_,_,hh⟩:=he;exact absurd hh (by simp)
    |row rw' args=>simp only[Oper.upon] at hr⊢;refine Rows.mono hr fun u yT he=>?_;rw[rU he.1 rC];exact uU _ he.2
    |_=>first|(simp only[Oper.upon] at hr;done)|(simp only[Oper.upon] at hr;have:=congrArg (fun x:Act=>x.defers) hr.1;simp[mX] at this)
   |halt x w'=>cases x<;>simp only[Oper.upon] at hr
 ·intro listed b w hinv hr;have iK:∀i:Nat,i < ops.size→listed.getD i false=true:=by
   intro i;induction i using Nat.strongRecOn with
   |_ i ih=>
    intro bC;cases hc:listed.getD i false with
    |true=>rfl
    |false=>
     exfalso;have ho:ops[i]? =some ops[i]:=Array.getElem?_eq_getElem bC;have hx:i < listed.size:=by rw[hinv.size];exact bC
     have Ex:i∈Region.ready .any ops listed:=by unfold Region.ready;rw[List.mem_filter];refine⟨by simpa using bC,?_⟩;simp only[Bool.and_eq_true,ho,Option.map_some,Option.getD_some,Array.all_eq_true_iff_forall_mem,Bool.or_eq_true];refine⟨?_,fun e he=> .inr (ih e.on (D.back i _ ho e he) (by have:=D.back i _ ho e he;omega))⟩;simp[hx] at hc⊢;exact hc
     rw[hr] at Ex;simp at Ex
  have hb:b=st ops.size:=by
   have ht:b.tmps=(st ops.size).tmps:=by
    apply Array.ext_getElem?;intro t;by_cases hex:∃(j:Nat) (p:Oper),ops[j]? =some p∧p.dst=some t;·obtain⟨j,p,hj,hp⟩:=hex;exact hinv.done t j p hj hp (iK j (Array.getElem?_eq_some_iff.1 hj).1)
    ·rw[hinv.todo t fun j p hj hp=>absurd ⟨j,p,hj,hp⟩ hex,Ye ops.size (Nat.le_refl _) t fun j p _ hj hp=>hex ⟨j,p,hj,hp⟩]
   have hd:b.defers=(st ops.size).defers:=by rw[hinv.defs,(sS _ (Nat.le_refl _)).2]
   cases b;cases tH:st ops.size;rw[tH] at ht hd;simp only at ht hd;rw[ht,hd]
  rw[hb];exact hF w hinv.world
 ·have:=List.countP_le_length (p:=fun i=> !(Array.replicate ops.size false).getD i true) (l:=List.range ops.size);simpa using this
 ·exact⟨by simp,rfl,rfl,hI,fun t i o ho _ hl=>by
   have hi:i < ops.size:=(Array.getElem?_eq_some_iff.1 ho).1;simp[hi] at hl,fun t _=>rfl⟩
inductive Spec where
 |val (v:Value)
 |any (V:Value→World→Prop)
def AX (ops:Array Oper) (o:Oper):List (Tmp×(World→Prop))→World→Prop
 |[],_=>True
 |p::r,w=>((o.looksAt ops).contains p.1=true→p.2 w)∧AX ops o r w
def AY:List (Tmp×(World→Prop))→World→Prop
 |[],_=>True
 |p::r,w=>p.2 w∧AY r w
structure N4 (S:World→World→Prop):Prop where
 refl:∀w,S w w
 trans:∀{x y z},S x y→S y z→S x z
def afD (P:Program) (ops:Array Oper) (S:World→World→Prop) (w0:World) (facts:List (Tmp×(World→Prop))) (o:Oper) (a:Act) (v:Value):Prop:=
 (Region.wanted o (yielded ops a.tmps)=false∧v=undef)∨
 (Region.wanted o (yielded ops a.tmps)=true∧∀w,S w0 w→AX ops o facts w→∀K:Act→World→Prop,(∀w',S w w'→K (a.put o.dst v) w')→o.wp P a w K (fun _ _ _=>False))
def afE (P:Program) (ops:Array Oper) (S:World→World→Prop) (w0:World) (facts:List (Tmp×(World→Prop))) (o:Oper) (a:Act) (V:Value→World→Prop):Prop:=
 Region.wanted o (yielded ops a.tmps)=true∧(∀v w w',V v w→S w w'→V v w')∧
 ∀w,S w0 w→AX ops o facts w→∀K:Act→World→Prop,(∀u w',S w w'→V u w'→K (a.put o.dst u) w')→o.wp P a w K (fun _ _ _=>False)
def aS (P:Program) (ops:Array Oper) (S:World→World→Prop) (w0:World) (Fin:List (Tmp×(World→Prop))→Act→Prop):
 List Oper→List Spec→List (Tmp×(World→Prop))→Act→Prop
 |[],[],facts,a=>Fin facts a
 |o::r,.val v::s,facts,a=>afD P ops S w0 facts o a v∧aS P ops S w0 Fin r s facts (a.put o.dst v)
 |o::r,.any V::s,facts,a=>∃t,o.dst=some t∧afE P ops S w0 facts o a V∧∀u,aS P ops S w0 Fin r s ((t,V u)::facts) (a.put o.dst u)
 |_,_,_,_=>False
section
variable {P:Program} {ops:Array Oper} {S:World→World→Prop} {w0:World} {Fin:List (Tmp×(World→Prop))→Act→Prop} {o:Oper} {r:List Oper} {s:List Spec} {facts:List (Tmp×(World→Prop))} {a:Act}
theorem aS.val {v:Value} (hw:Region.wanted o (yielded ops a.tmps)=true)
 (h:∀w,S w0 w→AX ops o facts w→∀K:Act→World→Prop,(∀w',S w w'→K (a.put o.dst v) w')→o.wp P a w K (fun _ _ _=>False))
 (hr:aS P ops S w0 Fin r s facts (a.put o.dst v)):aS P ops S w0 Fin (o::r) (.val v::s) facts a:=⟨.inr ⟨hw,h⟩,hr⟩
theorem aS.skip (hw:Region.wanted o (yielded ops a.tmps)=false)
 (hr:aS P ops S w0 Fin r s facts (a.put o.dst undef)):aS P ops S w0 Fin (o::r) (.val undef::s) facts a:=⟨.inl ⟨hw,rfl⟩,hr⟩
theorem aS.any {V:Value→World→Prop} {t:Tmp} (ht:o.dst=some t) (hw:Region.wanted o (yielded ops a.tmps)=true) (hV:∀v w w',V v w→S w w'→V v w')
 (h:∀w,S w0 w→AX ops o facts w→∀K:Act→World→Prop,(∀u w',S w w'→V u w'→K (a.put o.dst u) w')→o.wp P a w K (fun _ _ _=>False))
 (hr:∀u,aS P ops S w0 Fin r s ((t,V u)::facts) (a.put o.dst u)):aS P ops S w0 Fin (o::r) (.any V::s) facts a:=⟨t,ht,⟨hw,hV,h⟩,hr⟩
theorem aS.nil (h:Fin facts a):aS P ops S w0 Fin [] [] facts a:=h
end
def nT (specs:List Spec) (vs:Nat→Value) (i:Nat):Value:=
 match specs[i]? with
 |some (.val v)=>v
 |some (.any _)=>vs i
 |none=>undef
def rW (L:List Oper) (specs:List Spec) (vs:Nat→Value) (a:Act):Nat→Act
 |0=>a
 |k+1=>match L[k]? with
  |some o=>(rW L specs vs a k).put o.dst (nT specs vs k)
  |none=>rW L specs vs a k
theorem BS (o:Oper) (L:List Oper) (p:Spec) (specs:List Spec) (vs:Nat→Value) (a:Act) (k:Nat):
 rW (o::L) (p::specs) vs a (k+1)=rW L specs (fun i=>vs (i+1)) (a.put o.dst (nT (p::specs) vs 0)) k:=by
 induction k with
 |zero=>simp[rW]
 |succ k ih=>
  rw[rW,ih];simp only[List.getElem?_cons_succ];rw[rW];cases L[k]? with
  |none=>rfl
  |some q=>simp only[nT,List.getElem?_cons_succ]
def uL (L:List Oper) (specs:List Spec) (vs:Nat→Value) (i:Nat) (base facts:List (Tmp×(World→Prop))):Prop:=
 ∀p∈facts,p∈base∨∃j o V,j < i∧L[j]? =some o∧specs[j]? =some (.any V)∧o.dst=some p.1∧p.2=V (vs j)
theorem aS.wZ {P:Program} {ops:Array Oper} {S:World→World→Prop} {w0:World} {Fin:List (Tmp×(World→Prop))→Act→Prop}:
 ∀(L:List Oper) (specs:List Spec) (base:List (Tmp×(World→Prop))) (a:Act),aS P ops S w0 Fin L specs base a→∀vs:Nat→Value,
  (∃facts,uL L specs vs L.length base facts∧Fin facts (rW L specs vs a L.length))∧
  ∀(i:Nat) (o:Oper),L[i]? =some o→∃facts,uL L specs vs i base facts∧
   ((∃v,specs[i]? =some (.val v)∧afD P ops S w0 facts o (rW L specs vs a i) v)∨
    (∃V t,specs[i]? =some (.any V)∧o.dst=some t∧afE P ops S w0 facts o (rW L specs vs a i) V))
 |[],[],base,a,h,vs=>⟨⟨base,fun p hp=> .inl hp,h⟩,fun i o ho=>by simp at ho⟩
 |[],_::_,base,a,h,vs=>by simp[aS] at h
 |_::_,[],base,a,h,vs=>by simp[aS] at h
 |o::L,.val v::specs,base,a,h,vs=>by
  obtain⟨hv,hr⟩:=h;obtain⟨⟨facts,h1,h2⟩,h3⟩:=aS.wZ L specs base _ hr (fun i=>vs (i+1));have lift:∀{i:Nat} {facts:List (Tmp×(World→Prop))},uL L specs (fun i=>vs (i+1)) i base facts→uL (o::L) (.val v::specs) vs (i+1) base facts:=by
   intro i facts hf p hp;rcases hf p hp with h|⟨j,q,V,hj,e1,e2,e3,e4⟩;·exact .inl h
   ·exact .inr ⟨j+1,q,V,by omega,by simpa using e1,by simpa using e2,e3,e4⟩
  refine⟨⟨facts,lift h1,?_⟩,fun i q hq=>?_⟩;·rw[List.length_cons,BS];exact h2
  ·cases i with
   |zero=>simp at hq;subst hq;exact⟨base,fun p hp=> .inl hp,.inl ⟨v,rfl,hv⟩⟩
   |succ i=>obtain⟨f,k1,k2⟩:=h3 i q (by simpa using hq);refine⟨f,lift k1,?_⟩;rw[BS];simpa[nT] using k2
 |o::L,.any V::specs,base,a,h,vs=>by
  obtain⟨t,ht,hv,hr⟩:=h;obtain⟨⟨facts,h1,h2⟩,h3⟩:=aS.wZ L specs _ _ (hr (vs 0)) (fun i=>vs (i+1));have lift:∀{i:Nat} {facts:List (Tmp×(World→Prop))},uL L specs (fun i=>vs (i+1)) i ((t,V (vs 0))::base) facts→uL (o::L) (.any V::specs) vs (i+1) base facts:=by
   intro i facts hf p hp;rcases hf p hp with h|⟨j,q,V',hj,e1,e2,e3,e4⟩
   ·rcases List.mem_cons.1 h with h|h;·exact .inr ⟨0,o,V,by omega,rfl,rfl,by rw[h,ht],by rw[h]⟩
    ·exact .inl h
   ·exact .inr ⟨j+1,q,V',by omega,by simpa using e1,by simpa using e2,e3,e4⟩
  refine⟨⟨facts,lift h1,?_⟩,fun i q hq=>?_⟩;·rw[List.length_cons,BS];exact h2
  ·cases i with
   |zero=>simp at hq;subst hq;exact⟨base,fun p hp=> .inl hp,.inr ⟨V,t,rfl,ht,hv⟩⟩
   |succ i=>obtain⟨f,k1,k2⟩:=h3 i q (by simpa using hq);refine⟨f,lift k1,?_⟩;rw[BS];simpa[nT] using k2
theorem AY.of {facts:List (Tmp×(World→Prop))} {w:World} (h:∀p∈facts,p.2 w):AY facts w:=by
 induction facts with
 |nil=>trivial
 |cons p r ih=>exact⟨h p (by simp),ih fun q hq=>h q (by simp[hq])⟩
theorem AX.of {ops:Array Oper} {o:Oper} {facts:List (Tmp×(World→Prop))} {w:World} (h:∀p∈facts,p.1∈o.looksAt ops→p.2 w):AX ops o facts w:=by
 induction facts with
 |nil=>trivial
 |cons p r ih=>exact⟨fun hc=>h p (by simp) (by simpa using hc),ih fun q hq=>h q (by simp[hq])⟩
structure Ey (ops:Array Oper) (S:World→World→Prop) (w0:World) (specs:List Spec) (a:Act) (vs:Nat→Value) (listed:Array Bool) (b:Act) (w:World):Prop where
 size:listed.size=ops.size
 defs:b.defers=a.defers
 An:b.tmps.size=a.tmps.size
 world:S w0 w
 done:∀(t:Tmp) (i:Nat) (o:Oper),ops[i]? =some o→o.dst=some t→listed.getD i false=true→b.tmps[t]? =(a.put (some t) (nT specs vs i)).tmps[t]?
 todo:∀t:Tmp,(∀(i:Nat) (o:Oper),ops[i]? =some o→o.dst=some t→listed.getD i false=false)→b.tmps[t]? =a.tmps[t]?
 known:∀(i:Nat) (V:Value→World→Prop),specs[i]? =some (.any V)→listed.getD i false=true→V (vs i) w
theorem sT (a:Act) (t:Tmp) (v:Value):(a.put (some t) v).tmps[t]? =if t < a.tmps.size then some v else none:=by simp[Act.put,Array.getElem?_setIfInBounds]
theorem Ez {P:Program} {ops:Array Oper} {Q:Exit→Act→World→Prop} {id:Nat} {a:Act} {w:World} (S:World→World→Prop) (specs:List Spec) (hm:P.follows .mixedOrders=true) (qK:Ub ops=true) (hS:N4 S)
 (h:aS P ops S w.drew (fun facts aF=>∀w',S w.drew w'→AY facts w'→Q .normal aF w') ops.toList specs [] a):(Code.region id ops true).wp P Q a w:=by
 have D:=Uc.of qK;have hn:ops.toList.length=ops.size:=by simp
 have tH:=aS.wZ _ _ _ _ h;rw[hn] at tH;have Az:∀i:Nat,ops.toList[i]? =ops[i]? :=fun i=>by simp
 have sS:∀vs k,(rW ops.toList specs vs a k).tmps.size=a.tmps.size∧(rW ops.toList specs vs a k).defers=a.defers:=by
  intro vs k;induction k with
  |zero=>exact⟨rfl,rfl⟩
  |succ k ih=>
   rw[rW];cases ops.toList[k]? with
   |none=>exact ih
   |some o=>simp only[sR,mX];exact ih
 have Ye:∀vs k,∀t:Tmp,(∀(j:Nat) (o:Oper),j < k→ops[j]? =some o→o.dst≠some t)→(rW ops.toList specs vs a k).tmps[t]? =a.tmps[t]? :=by
  intro vs k;induction k with
  |zero=>intro t _;rfl
  |succ k ih=>
   intro t wU;rw[rW];cases ho:ops.toList[k]? with
   |none=>exact ih t fun j o hj=>wU j o (by omega)
   |some o=>simp only[];rw[gZ _ _ (wU k o (by omega) (by rw[←Az];exact ho))];exact ih t fun j o hj=>wU j o (by omega)
 have N5:∀vs k (i:Nat) (o:Oper) (t:Tmp),ops[i]? =some o→o.dst=some t→i < k→(rW ops.toList specs vs a k).tmps[t]? =(a.put (some t) (nT specs vs i)).tmps[t]? :=by
  intro vs k;induction k with
  |zero=>intro i o t _ _ hk;omega
  |succ k ih=>
   intro i o t ho ht hk;rw[rW];by_cases e:k=i;·subst e;rw[Az,ho];simp only[ht];rw[sT,sT,(sS vs k).1]
   ·cases hq:ops.toList[k]? with
    |none=>exact ih i o t ho ht (by omega)
    |some q=>simp only[];rw[gZ _ _ (D.once k q i o (by rw[←Az];exact hq) ho (by omega) t ht)];exact ih i o t ho ht (by omega)
 refine wp_region_any hm (xX (fun listed b w'=>∃vs,Ey ops S w.drew specs a vs listed b w') ?_ ?_ _ _ _ _ ?_ ?_)
 ·rintro listed b w1 i ⟨vs,hinv⟩ hi;have bC:i < ops.size:=by have:=(List.mem_filter.1 hi).1;simpa using this
  have ho:ops[i]? =some ops[i]:=Array.getElem?_eq_getElem bC;generalize ops[i]=o at ho;obtain⟨r1,r2⟩:=nF hi ho;obtain⟨facts,Hz,hv⟩:=(tH vs).2 i o (by rw[Az];exact ho);have Ua:i < listed.size:=by rw[hinv.size];exact bC
  have hlf:listed.getD i false=false:=by simp[Ua] at r1⊢;exact r1
  have agree:∀t∈o.looksAt ops,b.tmps[t]? =(rW ops.toList specs vs a i).tmps[t]? :=by
   intro t ht;by_cases hex:∃(j:Nat) (p:Oper),ops[j]? =some p∧p.dst=some t
   ·obtain⟨j,p,hj,hp⟩:=hex;obtain⟨e,he,hb,pA⟩:=D.ahead i o ho t ht j p hj hp;have hlj:listed.getD j false=true:=by rw[←pA];exact r2 e he hb
    have G0:j < i:=by rw[←pA];exact D.back i o ho e he
    rw[hinv.done t j p hj hp hlj,N5 vs i j p t hj hp G0]
   ·rw[hinv.todo t fun j p hj hp=>absurd ⟨j,p,hj,hp⟩ hex,Ye vs i t fun j p _ hj hp=>hex ⟨j,p,hj,hp⟩]
  have H7:AX ops o facts w1:=AX.of fun p hp hl=>by
   rcases Hz p hp with h|⟨j,q,V,hj,e1,e2,e3,e4⟩;·simp at h
   ·rw[e4];obtain⟨e,he,hb,pA⟩:=D.ahead i o ho p.1 hl j q (by rw[←Az];exact e1) e3;exact hinv.known j V e2 (by rw[←pA];exact r2 e he hb)
  have rC:b.tmps.size=(rW ops.toList specs vs a i).tmps.size:=by rw[hinv.An,(sS vs i).1]
  have uU:∀(us:Nat→Value) w',(∀j,j≠i→us j=vs j)→S w1 w'→(∀j V,specs[j]? =some (.any V)→listed.getD j false=true→V (us j) w')→
   (∀V,specs[i]? =some (.any V)→V (us i) w')→Ey ops S w.drew specs a us (listed.setIfInBounds i true) (b.put o.dst (nT specs us i)) w':=by
   intro us w' hus CI Dr KP;have Yf:∀j,j≠i→nT specs us j=nT specs vs j:=fun j hj=>by unfold nT;rw[hus j hj]
   refine⟨by simpa using hinv.size,by rw[mX];exact hinv.defs,by rw[sR];exact hinv.An,hS.trans hinv.world CI,fun t j p hj hp hl=>?_,fun t wU=>?_,fun j V hj hl=>?_⟩
   ·by_cases e:j=i;·subst e;rw[ho] at hj;cases hj;rw[hp,sT,sT,hinv.An]
    ·have eG:o.dst≠some t:=by
      by_cases G0:j < i;·exact D.once i o j p ho hj G0 t hp
      ·exact fun e'=>D.once j p i o hj ho (by omega) t e' hp
     rw[gZ _ _ eG,Yf j e];refine hinv.done t j p hj hp ?_;simpa[Ne.symm e] using hl
   ·have eG:o.dst≠some t:=fun e'=>by have:=wU i o ho e';simp[Ua] at this
    rw[gZ _ _ eG];refine hinv.todo t fun j p hj hp=>?_;have:=wU j p hj hp;by_cases e:j=i;·subst e;rw[ho] at hj;cases hj;exact absurd hp eG
    ·simpa[Ne.symm e] using this
   ·by_cases e:j=i;·subst e;exact KP V hj
    ·exact Dr j V hj (by simpa[Ne.symm e] using hl)
  have xY:Region.wanted o (yielded ops b.tmps)=Region.wanted o (yielded ops (rW ops.toList specs vs a i).tmps):=by
   unfold Region.wanted;cases hg:o.guard with
   |none=>rfl
   |some g=>obtain⟨j,want⟩:=g;simp only[];rw[rV (x:=b.tmps) (y:=(rW ops.toList specs vs a i).tmps) (j:=j) fun t ht=>agree t (by simp[Oper.looksAt,hg,ht])]
  have hev:execOp b.eval o=execOp (rW ops.toList specs vs a i).eval o:=by
   refine execOp_congr o (D.plain i o ho) fun x hx=>?_;cases x with
   |tmp t=>
    have:=agree t (by
     unfold Oper.looksAt;refine List.mem_append_left _ (List.mem_filterMap.2 ⟨.tmp t,by simpa using hx,rfl⟩))
    simp only[Act.eval,Array.getD_eq_getD_getElem?,this]
   |_=>rfl
  have agG:∀{w'},S w1 w'→∀j V,specs[j]? =some (.any V)→(∀v w w',V v w→S w w'→V v w')→listed.getD j false=true→V (vs j) w':=
   fun CI j V hj tH hl=>tH _ _ _ (hinv.known j V hj hl) CI
  have Yg:∀j V,specs[j]? =some (.any V)→listed.getD j false=true→∀v w w',V v w→S w w'→V v w':=by
   intro j V hj hl;have Ve:j < ops.size:=by
    by_cases Ve:j < ops.size;·exact Ve
    ·rw[Array.getD_eq_getD_getElem?,Array.getElem?_eq_none (by rw[hinv.size];omega)] at hl;simp at hl
   obtain⟨f,_,Vf⟩:=(tH vs).2 j ops[j] (by rw[Az];exact Array.getElem?_eq_getElem Ve);rcases Vf with⟨v,e,_⟩|⟨V',t,e,_,hN⟩;·rw[hj] at e;cases e
   ·rw[hj] at e;cases e;exact hN.2.1
  have run:∀(Vw:Value→World→Prop),(∀K:Act→World→Prop,(∀u w',S w1 w'→Vw u w'→K ((rW ops.toList specs vs a i).put o.dst u) w')→o.wp P (rW ops.toList specs vs a i) w1 K (fun _ _ _=>False))→
   (∀u w',S w1 w'→Vw u w'→∃us,Ey ops S w.drew specs a us (listed.setIfInBounds i true) (b.put o.dst u) w')→
   o.wp P b w1 (fun a' w'=>∃us,Ey ops S w.drew specs a us (listed.setIfInBounds i true) a' w') (fun e a' w'=>Q e a' w'):=by
   intro Vw uV hgo;have hr:=uV (fun a' w'=>∃u,a'=(rW ops.toList specs vs a i).put o.dst u∧S w1 w'∧Vw u w') fun u w' h1 h2=>⟨u,rfl,h1,h2⟩;have fin:∀x w',(∃u,(rW ops.toList specs vs a i).put o.dst x=(rW ops.toList specs vs a i).put o.dst u∧S w1 w'∧Vw u w')→∃us,Ey ops S w.drew specs a us (listed.setIfInBounds i true) (b.put o.dst x) w':=by rintro x w' ⟨u,e,h1,h2⟩;rw[rU e rC];exact hgo u w' h1 h2
   unfold Oper.wp at hr⊢;rw[hev];generalize (execOp (rW ops.toList specs vs a i).eval o).run P w1=res at hr;cases res with
   |ok nx w'=>
    cases nx with
    |value u=>simp only[Oper.upon] at hr⊢;exact fin _ _ hr
    |skip=>simp only[Oper.upon] at hr⊢;exact fin _ _ hr
    |enter f args=>
     simp only[Oper.upon] at hr⊢;refine Calls.mono hr fun e yT he=>?_;cases e with
     |returned u=>simp only[] at he⊢;exact fin _ _ he
     |panicked ch=>exact absurd he (by simp)
     |outgrown=>simp only[] at he;obtain⟨_,_,hh⟩:=he;exact absurd hh (by simp)
    |row rw' args=>simp only[Oper.upon] at hr⊢;refine Rows.mono hr fun u yT he=>?_;exact fin _ _ he
    |_=>first|(simp only[Oper.upon] at hr;done)|(simp only[Oper.upon] at hr;obtain⟨u,hr,_⟩:=hr;have:=congrArg (fun x:Act=>x.defers) hr;simp[mX] at this)
   |halt x w'=>cases x<;>simp only[Oper.upon] at hr
  unfold wpOp;rw[ho];simp only[];rcases hv with⟨v,G2,hN⟩|⟨V,t,G2,ht,hw,ajO,uV⟩
  ·have mD:∀us,nT specs us i=v:=fun us=>by unfold nT;rw[G2]
   rcases hN with⟨hw,hvu⟩|⟨hw,uV⟩;·rw[xY,hw];subst hvu;refine⟨vs,?_⟩;have:=uU vs w1 (fun _ _=>rfl) (hS.refl _) (fun j V hj hl=>hinv.known j V hj hl) (fun V hV=>by rw[G2] at hV;cases hV);rw[mD] at this;exact this
   ·rw[xY,hw];simp only[if_true];left;refine run (fun u _=>u=v) (fun K hK=>uV w1 hinv.world H7 K fun w' CI=>hK v w' CI rfl) ?_;rintro u w' CI rfl;refine⟨vs,?_⟩;have:=uU vs w' (fun _ _=>rfl) CI (fun j V hj hl=>Yg j V hj hl _ _ _ (hinv.known j V hj hl) CI) (fun V hV=>by rw[G2] at hV;cases hV);rw[mD] at this;exact this
  ·rw[xY,hw];simp only[if_true];left;refine run V (fun K hK=>uV w1 hinv.world H7 K fun u w' CI hV=>hK u w' CI hV) ?_;intro u w' CI hVu;refine⟨fun j=>if j=i then u else vs j,?_⟩;have mD:nT specs (fun j=>if j=i then u else vs j) i=u:=by unfold nT;rw[G2];simp
   have:=uU (fun j=>if j=i then u else vs j) w' (fun j hj=>by simp[hj]) CI
    (fun j V' hj hl=>by
      have G0:j≠i:=fun e=>by rw[e,hlf] at hl;cases hl
      simp only[G0,if_false]
      exact Yg j V' hj hl _ _ _ (hinv.known j V' hj hl) CI)
    (fun V' hV'=>by rw[G2] at hV';cases hV';simpa using hVu)
   rw[mD] at this;exact this
 ·rintro listed b w1 ⟨vs,hinv⟩ hr;have iK:∀i:Nat,i < ops.size→listed.getD i false=true:=by
   intro i;induction i using Nat.strongRecOn with
   |_ i ih=>
    intro bC;cases hc:listed.getD i false with
    |true=>rfl
    |false=>
     exfalso;have ho:ops[i]? =some ops[i]:=Array.getElem?_eq_getElem bC;have hx:i < listed.size:=by rw[hinv.size];exact bC
     have Ex:i∈Region.ready .any ops listed:=by unfold Region.ready;rw[List.mem_filter];refine⟨by simpa using bC,?_⟩;simp only[Bool.and_eq_true,ho,Option.map_some,Option.getD_some,Array.all_eq_true_iff_forall_mem,Bool.or_eq_true];refine⟨?_,fun e he=> .inr (ih e.on (D.back i _ ho e he) (by have:=D.back i _ ho e he;omega))⟩;simp[hx] at hc⊢;exact hc
     rw[hr] at Ex;simp at Ex
  have hb:b=rW ops.toList specs vs a ops.size:=by
   have ht:b.tmps=(rW ops.toList specs vs a ops.size).tmps:=by
    apply Array.ext_getElem?;intro t;by_cases hex:∃(j:Nat) (p:Oper),ops[j]? =some p∧p.dst=some t;·obtain⟨j,p,hj,hp⟩:=hex;have Ve:=(Array.getElem?_eq_some_iff.1 hj).1;rw[hinv.done t j p hj hp (iK j Ve),N5 vs ops.size j p t hj hp Ve]
    ·rw[hinv.todo t fun j p hj hp=>absurd ⟨j,p,hj,hp⟩ hex,Ye vs ops.size t fun j p _ hj hp=>hex ⟨j,p,hj,hp⟩]
   have hd:b.defers=(rW ops.toList specs vs a ops.size).defers:=by rw[hinv.defs,(sS vs _).2]
   cases b;cases tH:rW ops.toList specs vs a ops.size;rw[tH] at ht hd;simp only at ht hd;rw[ht,hd]
  obtain⟨facts,Hz,hF⟩:=(tH vs).1;rw[hb];refine hF w1 hinv.world (AY.of fun p hp=>?_);rcases Hz p hp with h|⟨j,q,V,hj,e1,e2,e3,e4⟩;·simp at h
  ·rw[e4];exact hinv.known j V e2 (iK j hj)
 ·have:=List.countP_le_length (p:=fun i=> !(Array.replicate ops.size false).getD i true) (l:=List.range ops.size);simpa using this
 ·refine⟨fun _=>undef,by simp,rfl,rfl,hS.refl _,fun t i o ho _ hl=>?_,fun t _=>rfl,fun i V _ hl=>?_⟩;·have hi:i < ops.size:=(Array.getElem?_eq_some_iff.1 ho).1;simp[hi] at hl
  ·by_cases hi:i < ops.size;·simp[hi] at hl
   ·simp[hi] at hl
def fX (w w':World):Prop:=Below w.heap.size w w'
theorem mM:N4 fX:=⟨fun w=>Below.refl _ w,fun h k=>h.trans (k.mono h.size)⟩
def H9 (ops:Array Oper) (n:Nat):Bool:=
 (List.range ops.size).all fun i=>match ops[i]? with
   |none=>true
   |some o=>(o.after.all fun e=> !Region.binds .any e||decide (e.on < i))&&(match o.op with| .select .. =>false|_=>true)&&
     ((o.looksAt ops).all fun t=>(List.range n).all fun j=>match ops[j]? with
       |some p=>if p.dst==some t then o.after.any (fun e=>Region.binds .any e&&e.on==j) else true
       |none=>true)&&
     (List.range i).all fun j=>match ops[j]? with
       |some p=>p.dst.isNone||p.dst !=o.dst
       |none=>true
structure Mi (ops:Array Oper) (n:Nat):Prop where
 back:∀(i:Nat) (o:Oper),ops[i]? =some o→∀e∈o.after,Region.binds .any e=true→e.on < i
 plain:∀(i:Nat) (o:Oper),ops[i]? =some o→∀cs b,o.op≠ .select cs b
 ahead:∀(i:Nat) (o:Oper),ops[i]? =some o→∀t∈o.looksAt ops,∀(j:Nat) (p:Oper),j < n→ops[j]? =some p→p.dst=some t→∃e∈o.after,Region.binds .any e=true∧e.on=j
 once:∀(i:Nat) (o:Oper) (j:Nat) (p:Oper),ops[i]? =some o→ops[j]? =some p→j < i→∀t,p.dst=some t→o.dst≠some t
theorem Mi.of {ops:Array Oper} {n:Nat} (h:H9 ops n=true):Mi ops n:=by
 have key:∀(i:Nat) (o:Oper),ops[i]? =some o→(∀e∈o.after,Region.binds .any e=true→e.on < i)∧(∀cs b,o.op≠ .select cs b)∧
  (∀t∈o.looksAt ops,∀(j:Nat) (p:Oper),j < n→ops[j]? =some p→p.dst=some t→∃e∈o.after,Region.binds .any e=true∧e.on=j)∧
  (∀(j:Nat) (p:Oper),ops[j]? =some p→j < i→∀t,p.dst=some t→o.dst≠some t):=by
  intro i o ho;have hi:i < ops.size:=(Array.getElem?_eq_some_iff.1 ho).1;unfold H9 at h;rw[List.all_eq_true] at h;have h1:=h i (by simpa using hi);simp only[ho,Bool.and_eq_true] at h1;obtain⟨⟨⟨h2,h3⟩,h4⟩,h5⟩:=h1;refine⟨fun e he hbb=>?_,fun cs b hs=>?_,fun t ht j p Rn hj hp=>?_,fun j p hj bC t hp ho'=>?_⟩;·rw[Array.all_eq_true_iff_forall_mem] at h2;have h9:=h2 e he;rw[hbb] at h9;simpa using h9
  ·rw[hs] at h3;simp at h3
  ·rw[List.all_eq_true] at h4;have h6:=h4 t ht;rw[List.all_eq_true] at h6;have h7:=h6 j (by simpa using Rn);simp only[hj,hp,beq_self_eq_true,if_true,Array.any_eq_true'] at h7;obtain⟨e,he,hb⟩:=h7;simp only[Bool.and_eq_true,beq_iff_eq] at hb;exact⟨e,he,hb.1,hb.2⟩
  ·rw[List.all_eq_true] at h5;have h6:=h5 j (by simpa using bC);simp[hj,hp,ho'] at h6
 exact⟨fun i o ho=>(key i o ho).1,fun i o ho=>(key i o ho).2.1,fun i o ho=>(key i o ho).2.2.1,fun i o j p ho hj bC=>(key i o ho).2.2.2 j p hj bC⟩
def Mj (ops:Array Oper) (n:Nat):Bool:=
 (List.range n).all fun i=>(List.range (n+1)).any fun j=>decide (i < j)&&(match ops[j]? with
   |some p=>p.after.any fun e=>Region.binds .any e&&e.on==i
   |none=>false)
def xA (ops:Array Oper) (listed:Array Bool):Prop:=∀(i:Nat) (o:Oper),ops[i]? =some o→listed.getD i false=true→∀e∈o.after,Region.binds .any e=true→listed.getD e.on false=true
theorem xA.none (ops:Array Oper):xA ops (Array.replicate ops.size false):=by intro i o ho hl;have hi:i < ops.size:=(Array.getElem?_eq_some_iff.1 ho).1;simp[hi] at hl
theorem xA.step {ops:Array Oper} {listed:Array Bool} (h:xA ops listed) {i:Nat} {o:Oper} (ho:ops[i]? =some o) (hr:∀e∈o.after,Region.binds .any e=true→listed.getD e.on false=true) (hi:i < listed.size):xA ops (listed.setIfInBounds i true):=by
 have key:∀j,listed.getD j false=true→(listed.setIfInBounds i true).getD j false=true:=by
  intro j hj;by_cases e:j=i;·subst e;simp[hi]
  ·simpa[Ne.symm e] using hj
 intro j p hp hl e he hb;by_cases G0:j=i;·subst G0;rw[ho] at hp;cases hp;exact key _ (hr e he hb)
 ·exact key _ (h j p hp (by simpa[Ne.symm G0] using hl) e he hb)
theorem Ro {ops:Array Oper} {n:Nat} (h:Mj ops n=true) {listed:Array Bool} (hc:xA ops listed) {st:Oper} (hs:ops[n]? =some st) (hr:∀e∈st.after,Region.binds .any e=true→listed.getD e.on false=true):∀i,i < n→listed.getD i false=true:=by
 have key:∀m i,n - i≤m→i < n→listed.getD i false=true:=by
  intro m;induction m with
  |zero=>intro i hm hi;omega
  |succ m ih=>
   intro i hm hi;unfold Mj at h;rw[List.all_eq_true] at h;have h1:=h i (by simpa using hi);rw[List.any_eq_true] at h1;obtain⟨j,hj,h2⟩:=h1;rw[Bool.and_eq_true] at h2;obtain⟨h3,h4⟩:=h2;have hij:i < j:=by simpa using h3
   cases hp:ops[j]? with
   |none=>rw[hp] at h4;cases h4
   |some p=>
    rw[hp] at h4;simp only[Array.any_eq_true'] at h4;obtain⟨e,he,hb⟩:=h4;simp only[Bool.and_eq_true,beq_iff_eq] at hb;obtain⟨eN,dE⟩:=hb;have Ve:j < n+1:=by simpa using hj
    by_cases Rn:j=n;·subst Rn;rw[hs] at hp;cases hp;rw[←dE];exact hr e he eN
    ·rw[←dE];exact hc j p hp (ih j (by omega) (by omega)) e he eN
 exact fun i hi=>key (n - i) i (Nat.le_refl _) hi
def Ia (ops:Array Oper) (n:Nat):Bool:=
 (List.range ops.size).all fun j=>(List.range j).all fun i=>decide (i < n)||(match ops[j]? with
   |some p=>p.after.any fun e=>Region.binds .any e&&e.on==i
   |none=>true)
theorem KX {ops:Array Oper} {n:Nat} (h:Ia ops n=true) {i j:Nat} {p:Oper} (hp:ops[j]? =some p) (hij:i < j) (hn:n≤i):∃e∈p.after,Region.binds .any e=true∧e.on=i:=by
 unfold Ia at h;rw[List.all_eq_true] at h;have h1:=h j (by simpa using (Array.getElem?_eq_some_iff.1 hp).1);rw[List.all_eq_true] at h1;have h2:=h1 i (by simpa using hij);rw[hp] at h2;simp only[Bool.or_eq_true,decide_eq_true_eq,Array.any_eq_true'] at h2;rcases h2 with h2|⟨e,he,hb⟩;·omega
 ·simp only[Bool.and_eq_true,beq_iff_eq] at hb;exact⟨e,he,hb.1,hb.2⟩
theorem AZ {P:Program} {ops:Array Oper} {Q:Exit→Act→World→Prop} {id:Nat} {a:Act} {w:World} (S:World→World→Prop) (specs:List Spec) (n:Nat) (st:Oper) (Vg:ops[n]? =some st) (hm:P.follows .mixedOrders=true) (qK:H9 ops n=true) (A5:Mj ops n=true) (Ud:Ia ops n=true) (hS:N4 S)
 (h:aS P ops S w.drew (fun facts aF=>∀w',S w.drew w'→AY facts w'→wpList P ops Q (ops.toList.drop n) aF w') (ops.toList.take n) specs [] a):(Code.region id ops true).wp P Q a w:=by
 have D:=Mi.of qK;have hns:n < ops.size:=(Array.getElem?_eq_some_iff.1 Vg).1;obtain⟨L,hLd⟩:∃L,L=ops.toList.take n:=⟨_,rfl⟩;rw[←hLd] at h;have hn:L.length=n:=by rw[hLd];simp;omega
 have tH:=aS.wZ _ _ _ _ h;rw[hn] at tH;have hL:∀(k:Nat) (o:Oper),L[k]? =some o→k < n∧ops[k]? =some o:=by
  intro k o hk;have Ec:k < n:=by have:=(List.getElem?_eq_some_iff.1 hk).1;omega
  rw[hLd,List.getElem?_take_of_lt Ec] at hk;exact⟨Ec,by simpa using hk⟩
 have hL':∀(k:Nat) (o:Oper),k < n→ops[k]? =some o→L[k]? =some o:=by intro k o Ec hk;rw[hLd,List.getElem?_take_of_lt Ec];simpa using hk
 have sS:∀vs k,(rW L specs vs a k).tmps.size=a.tmps.size∧(rW L specs vs a k).defers=a.defers:=by
  intro vs k;induction k with
  |zero=>exact⟨rfl,rfl⟩
  |succ k ih=>
   rw[rW];cases L[k]? with
   |none=>exact ih
   |some o=>simp only[sR,mX];exact ih
 have Ye:∀vs k,∀t:Tmp,(∀(j:Nat) (o:Oper),j < k→ops[j]? =some o→o.dst≠some t)→(rW L specs vs a k).tmps[t]? =a.tmps[t]? :=by
  intro vs k;induction k with
  |zero=>intro t _;rfl
  |succ k ih=>
   intro t wU;rw[rW];cases ho:L[k]? with
   |none=>exact ih t fun j o hj=>wU j o (by omega)
   |some o=>simp only[];rw[gZ _ _ (wU k o (by omega) (hL k o ho).2)];exact ih t fun j o hj=>wU j o (by omega)
 have N5:∀vs k (i:Nat) (o:Oper) (t:Tmp),ops[i]? =some o→o.dst=some t→i < k→i < n→(rW L specs vs a k).tmps[t]? =(a.put (some t) (nT specs vs i)).tmps[t]? :=by
  intro vs k;induction k with
  |zero=>intro i o t _ _ hk;omega
  |succ k ih=>
   intro i o t ho ht hk GY;rw[rW];by_cases e:k=i;·subst e;rw[hL' k o GY ho];simp only[ht];rw[sT,sT,(sS vs k).1]
   ·cases hq:L[k]? with
    |none=>exact ih i o t ho ht (by omega) GY
    |some q=>simp only[];rw[gZ _ _ (D.once k q i o (hL k q hq).2 ho (by omega) t ht)];exact ih i o t ho ht (by omega) GY
 have ajP:∀(listed:Array Bool) (b:Act) (w1:World) (vs:Nat→Value),Ey ops S w.drew specs a vs listed b w1→(∀j,n≤j→listed.getD j false=false)→(∀i,i < n→listed.getD i false=true)→wpList P ops Q (ops.toList.drop n) b w1:=by
  intro listed b w1 vs hinv Ed iK;have hb:b=rW L specs vs a n:=by
   have ht:b.tmps=(rW L specs vs a n).tmps:=by
    apply Array.ext_getElem?;intro t;by_cases hex:∃(j:Nat) (p:Oper),j < n∧ops[j]? =some p∧p.dst=some t;·obtain⟨j,p,Rn,hj,hp⟩:=hex;rw[hinv.done t j p hj hp (iK j Rn),N5 vs n j p t hj hp Rn Rn]
    ·rw[hinv.todo t fun j p hj hp=>?_,Ye vs n t fun j p Rn hj hp=>hex ⟨j,p,Rn,hj,hp⟩];by_cases Rn:j < n;·exact absurd ⟨j,p,Rn,hj,hp⟩ hex
     ·exact Ed j (by omega)
   have hd:b.defers=(rW L specs vs a n).defers:=by rw[hinv.defs,(sS vs _).2]
   cases b;cases amT:rW L specs vs a n;rw[amT] at ht hd;simp only at ht hd;rw[ht,hd]
  obtain⟨facts,Hz,hF⟩:=(tH vs).1;rw[hb];have hA:AY facts w1:=AY.of fun p hp=>by
   rcases Hz p hp with h|⟨j,q,V,hj,e1,e2,e3,e4⟩;·simp at h
   ·rw[e4];exact hinv.known j V e2 (iK j hj)
  exact hF w1 hinv.world hA
 obtain⟨J,hJ⟩:∃J:Array Bool→Act→World→Prop,J=fun listed b w'=>∃m,n≤m∧m≤ops.size∧listed.size=ops.size∧(∀i,i < m→listed.getD i false=true)∧(∀i,m≤i→listed.getD i false=false)∧wpList P ops Q (ops.toList.drop m) b w':=⟨_,rfl⟩;have Hw:∀listed b w1 i,J listed b w1→i∈Region.ready .any ops listed→wpOp P ops Q i (fun b' w'=>J (listed.setIfInBounds i true) b' w') b w1:=by
  intro listed b w1 i hj hi;rw[hJ] at hj;obtain⟨m,hnm,hms,iW,hup,Ue,Ib⟩:=hj;have bC:i < ops.size:=by have:=(List.mem_filter.1 hi).1;simpa using this
  have ho:ops[i]? =some ops[i]:=Array.getElem?_eq_getElem bC;generalize ops[i]=o at ho;obtain⟨r1,r2⟩:=nF hi ho;have hx:i < listed.size:=by omega
  have hlf:listed.getD i false=false:=by simp[hx] at r1⊢;exact r1
  have him:i=m:=by
   rcases Nat.lt_trichotomy i m with h|h|h;·rw[hup i h] at hlf;cases hlf
   ·exact h
   ·obtain⟨e,he,eN,pA⟩:=KX Ud ho h hnm;have:=r2 e he eN;rw[pA,Ue m (Nat.le_refl _)] at this;cases this
  subst him;have hdr:ops.toList.drop i=o::ops.toList.drop (i+1):=by rw[List.drop_eq_getElem_cons (by simpa using bC)];congr 1;have:=(Array.getElem?_eq_some_iff.1 ho).2;simpa using this
  have afF:∀b' w',wpList P ops Q (ops.toList.drop (i+1)) b' w'→J (listed.setIfInBounds i true) b' w':=by
   intro b' w' h;rw[hJ];refine⟨i+1,by omega,by omega,by simpa using iW,fun j hj=>?_,fun j hj=>?_,h⟩
   ·by_cases G0:j=i;·subst G0;simp[hx]
    ·have:=hup j (by omega);simpa[Ne.symm G0] using this
   ·have:=Ue j (by omega);simpa[show i≠j by omega] using this
  rw[hdr] at Ib;unfold wpList at Ib;unfold wpOp;rw[ho];simp only[];split;·rename_i hwn;rw[if_pos hwn] at Ib;exact Ib.imp (Oper.wp_mono afF) (fun x=>x)
  ·rename_i hwn;rw[if_neg hwn] at Ib;exact afF _ _ Ib
 refine wp_region_any hm (xX (fun listed b w'=>((∀j,n≤j→listed.getD j false=false)∧xA ops listed∧∃vs,Ey ops S w.drew specs a vs listed b w')∨J listed b w') ?_ ?_ _ _ _ _ ?_ ?_)
 ·rintro listed b w1 i (⟨Ed,ajQ,vs,hinv⟩|hj) hi;rotate_left;·exact wpOp_mono (fun _ _ h=> .inr h) (Hw listed b w1 i hj hi)
  have bC:i < ops.size:=by have:=(List.mem_filter.1 hi).1;simpa using this
  have ho:ops[i]? =some ops[i]:=Array.getElem?_eq_getElem bC;generalize ops[i]=o at ho;obtain⟨r1,r2⟩:=nF hi ho;have ajR:xA ops (listed.setIfInBounds i true):=ajQ.step ho r2 (by rw[hinv.size];exact bC);by_cases GY:n≤i
  ·have amU:i=n:=by
    rcases Nat.lt_or_ge n i with h|h;·obtain⟨e,he,eN,pA⟩:=KX Ud ho h (Nat.le_refl _);have:=r2 e he eN;rw[pA,Ed n (Nat.le_refl _)] at this;cases this
    ·omega
   subst amU;rw[Vg] at ho;cases ho;have iK:∀j,j < i→listed.getD j false=true:=Ro A5 ajQ Vg r2;have hj:J listed b w1:=by rw[hJ];exact⟨i,Nat.le_refl _,Nat.le_of_lt bC,hinv.size,iK,Ed,ajP listed b w1 vs hinv Ed iK⟩
   exact wpOp_mono (fun _ _ h=> .inr h) (Hw listed b w1 i hj hi)
  have amV:i < n:=by omega
  have goLeft:∀b' w',(∃us,Ey ops S w.drew specs a us (listed.setIfInBounds i true) b' w')→((∀j,n≤j→(listed.setIfInBounds i true).getD j false=false)∧xA ops (listed.setIfInBounds i true)∧∃us,Ey ops S w.drew specs a us (listed.setIfInBounds i true) b' w')∨J (listed.setIfInBounds i true) b' w':=
   fun b' w' hx=> .inl ⟨fun j hj=>by have:=Ed j hj;simpa[show i≠j by omega] using this,ajR,hx⟩
  obtain⟨facts,Hz,hv⟩:=(tH vs).2 i o (hL' i o amV ho);have Ua:i < listed.size:=by rw[hinv.size];exact bC
  have hlf:listed.getD i false=false:=by simp[Ua] at r1⊢;exact r1
  have agree:∀t∈o.looksAt ops,b.tmps[t]? =(rW L specs vs a i).tmps[t]? :=by
   intro t ht;by_cases hex:∃(j:Nat) (p:Oper),j < n∧ops[j]? =some p∧p.dst=some t
   ·obtain⟨j,p,Rn,hj,hp⟩:=hex;obtain⟨e,he,hb,pA⟩:=D.ahead i o ho t ht j p Rn hj hp;have hlj:listed.getD j false=true:=by rw[←pA];exact r2 e he hb
    have G0:j < i:=by rw[←pA];exact D.back i o ho e he hb
    rw[hinv.done t j p hj hp hlj,N5 vs i j p t hj hp G0 (by omega)]
   ·rw[hinv.todo t fun j p hj hp=>(Nat.lt_or_ge j n).elim (fun h=>absurd ⟨j,p,h,hj,hp⟩ hex) (Ed j),Ye vs i t fun j p G0 hj hp=>hex ⟨j,p,by omega,hj,hp⟩]
  have H7:AX ops o facts w1:=AX.of fun p hp hl=>by
   rcases Hz p hp with h|⟨j,q,V,hj,e1,e2,e3,e4⟩;·simp at h
   ·rw[e4];obtain⟨e,he,hb,pA⟩:=D.ahead i o ho p.1 hl j q (hL j q e1).1 (hL j q e1).2 e3;exact hinv.known j V e2 (by rw[←pA];exact r2 e he hb)
  have rC:b.tmps.size=(rW L specs vs a i).tmps.size:=by rw[hinv.An,(sS vs i).1]
  have uU:∀(us:Nat→Value) w',(∀j,j≠i→us j=vs j)→S w1 w'→(∀j V,specs[j]? =some (.any V)→listed.getD j false=true→V (us j) w')→
   (∀V,specs[i]? =some (.any V)→V (us i) w')→Ey ops S w.drew specs a us (listed.setIfInBounds i true) (b.put o.dst (nT specs us i)) w':=by
   intro us w' hus CI Dr KP;have Yf:∀j,j≠i→nT specs us j=nT specs vs j:=fun j hj=>by unfold nT;rw[hus j hj]
   refine⟨by simpa using hinv.size,by rw[mX];exact hinv.defs,by rw[sR];exact hinv.An,hS.trans hinv.world CI,fun t j p hj hp hl=>?_,fun t wU=>?_,fun j V hj hl=>?_⟩
   ·by_cases e:j=i;·subst e;rw[ho] at hj;cases hj;rw[hp,sT,sT,hinv.An]
    ·have eG:o.dst≠some t:=by
      by_cases G0:j < i;·exact D.once i o j p ho hj G0 t hp
      ·exact fun e'=>D.once j p i o hj ho (by omega) t e' hp
     rw[gZ _ _ eG,Yf j e];refine hinv.done t j p hj hp ?_;simpa[Ne.symm e] using hl
   ·have eG:o.dst≠some t:=fun e'=>by have:=wU i o ho e';simp[Ua] at this
    rw[gZ _ _ eG];refine hinv.todo t fun j p hj hp=>?_;have:=wU j p hj hp;by_cases e:j=i;·subst e;rw[ho] at hj;cases hj;exact absurd hp eG
    ·simpa[Ne.symm e] using this
   ·by_cases e:j=i;·subst e;exact KP V hj
    ·exact Dr j V hj (by simpa[Ne.symm e] using hl)
  have xY:Region.wanted o (yielded ops b.tmps)=Region.wanted o (yielded ops (rW L specs vs a i).tmps):=by
   unfold Region.wanted;cases hg:o.guard with
   |none=>rfl
   |some g=>obtain⟨j,want⟩:=g;simp only[];rw[rV (x:=b.tmps) (y:=(rW L specs vs a i).tmps) (j:=j) fun t ht=>agree t (by simp[Oper.looksAt,hg,ht])]
  have hev:execOp b.eval o=execOp (rW L specs vs a i).eval o:=by
   refine execOp_congr o (D.plain i o ho) fun x hx=>?_;cases x with
   |tmp t=>
    have:=agree t (by
     unfold Oper.looksAt;refine List.mem_append_left _ (List.mem_filterMap.2 ⟨.tmp t,by simpa using hx,rfl⟩))
    simp only[Act.eval,Array.getD_eq_getD_getElem?,this]
   |_=>rfl
  have agG:∀{w'},S w1 w'→∀j V,specs[j]? =some (.any V)→(∀v w w',V v w→S w w'→V v w')→listed.getD j false=true→V (vs j) w':=
   fun CI j V hj tH hl=>tH _ _ _ (hinv.known j V hj hl) CI
  have Yg:∀j V,specs[j]? =some (.any V)→listed.getD j false=true→∀v w w',V v w→S w w'→V v w':=by
   intro j V hj hl;have Ve:j < ops.size:=by
    by_cases Ve:j < ops.size;·exact Ve
    ·rw[Array.getD_eq_getD_getElem?,Array.getElem?_eq_none (by rw[hinv.size];omega)] at hl;simp at hl
   have Rn:j < n:=by
    rcases Nat.lt_or_ge j n with h|h;·exact h
    ·rw[Ed j h] at hl;cases hl
   obtain⟨f,_,Vf⟩:=(tH vs).2 j ops[j] (hL' j _ Rn (Array.getElem?_eq_getElem Ve));rcases Vf with⟨v,e,_⟩|⟨V',t,e,_,hN⟩;·rw[hj] at e;cases e
   ·rw[hj] at e;cases e;exact hN.2.1
  have run:∀(Vw:Value→World→Prop),(∀K:Act→World→Prop,(∀u w',S w1 w'→Vw u w'→K ((rW L specs vs a i).put o.dst u) w')→o.wp P (rW L specs vs a i) w1 K (fun _ _ _=>False))→
   (∀u w',S w1 w'→Vw u w'→∃us,Ey ops S w.drew specs a us (listed.setIfInBounds i true) (b.put o.dst u) w')→
   o.wp P b w1 (fun a' w'=>∃us,Ey ops S w.drew specs a us (listed.setIfInBounds i true) a' w') (fun e a' w'=>Q e a' w'):=by
   intro Vw uV hgo;have hr:=uV (fun a' w'=>∃u,a'=(rW L specs vs a i).put o.dst u∧S w1 w'∧Vw u w') fun u w' h1 h2=>⟨u,rfl,h1,h2⟩;have fin:∀x w',(∃u,(rW L specs vs a i).put o.dst x=(rW L specs vs a i).put o.dst u∧S w1 w'∧Vw u w')→∃us,Ey ops S w.drew specs a us (listed.setIfInBounds i true) (b.put o.dst x) w':=by rintro x w' ⟨u,e,h1,h2⟩;rw[rU e rC];exact hgo u w' h1 h2
   unfold Oper.wp at hr⊢;rw[hev];generalize (execOp (rW L specs vs a i).eval o).run P w1=res at hr;cases res with
   |ok nx w'=>
    cases nx with
    |value u=>simp only[Oper.upon] at hr⊢;exact fin _ _ hr
    |skip=>simp only[Oper.upon] at hr⊢;exact fin _ _ hr
    |enter f args=>
     simp only[Oper.upon] at hr⊢;refine Calls.mono hr fun e yT he=>?_;cases e with
     |returned u=>simp only[] at he⊢;exact fin _ _ he
     |panicked ch=>exact absurd he (by simp)
     |outgrown=>simp only[] at he;obtain⟨_,_,hh⟩:=he;exact absurd hh (by simp)
    |row rw' args=>simp only[Oper.upon] at hr⊢;refine Rows.mono hr fun u yT he=>?_;exact fin _ _ he
    |_=>first|(simp only[Oper.upon] at hr;done)|(simp only[Oper.upon] at hr;obtain⟨u,hr,_⟩:=hr;have:=congrArg (fun x:Act=>x.defers) hr;simp[mX] at this)
   |halt x w'=>cases x<;>simp only[Oper.upon] at hr
  refine wpOp_mono goLeft ?_;unfold wpOp;rw[ho];simp only[];rcases hv with⟨v,G2,hN⟩|⟨V,t,G2,ht,hw,ajO,uV⟩
  ·have mD:∀us,nT specs us i=v:=fun us=>by unfold nT;rw[G2]
   rcases hN with⟨hw,hvu⟩|⟨hw,uV⟩;·rw[xY,hw];subst hvu;refine⟨vs,?_⟩;have:=uU vs w1 (fun _ _=>rfl) (hS.refl _) (fun j V hj hl=>hinv.known j V hj hl) (fun V hV=>by rw[G2] at hV;cases hV);rw[mD] at this;exact this
   ·rw[xY,hw];simp only[if_true];left;refine run (fun u _=>u=v) (fun K hK=>uV w1 hinv.world H7 K fun w' CI=>hK v w' CI rfl) ?_;rintro u w' CI rfl;refine⟨vs,?_⟩;have:=uU vs w' (fun _ _=>rfl) CI (fun j V hj hl=>Yg j V hj hl _ _ _ (hinv.known j V hj hl) CI) (fun V hV=>by rw[G2] at hV;cases hV);rw[mD] at this;exact this
  ·rw[xY,hw];simp only[if_true];left;refine run V (fun K hK=>uV w1 hinv.world H7 K fun u w' CI hV=>hK u w' CI hV) ?_;intro u w' CI hVu;refine⟨fun j=>if j=i then u else vs j,?_⟩;have mD:nT specs (fun j=>if j=i then u else vs j) i=u:=by unfold nT;rw[G2];simp
   have:=uU (fun j=>if j=i then u else vs j) w' (fun j hj=>by simp[hj]) CI
    (fun j V' hj hl=>by
      have G0:j≠i:=fun e=>by rw[e,hlf] at hl;cases hl
      simp only[G0,if_false]
      exact Yg j V' hj hl _ _ _ (hinv.known j V' hj hl) CI)
    (fun V' hV'=>by rw[G2] at hV';cases hV';simpa using hVu)
   rw[mD] at this;exact this
 ·rintro listed b w1 ajS hr;have iW:listed.size=ops.size:=by
   rcases ajS with⟨_,_,vs,hinv⟩|h;·exact hinv.size
   ·rw[hJ] at h;obtain⟨m,_,_,h,_⟩:=h;exact h
  have iK:∀i:Nat,i < ops.size→listed.getD i false=true:=by
   intro i;induction i using Nat.strongRecOn with
   |_ i ih=>
    intro bC;cases hc:listed.getD i false with
    |true=>rfl
    |false=>
     exfalso;have ho:ops[i]? =some ops[i]:=Array.getElem?_eq_getElem bC;have hx:i < listed.size:=by rw[iW];exact bC
     have Ex:i∈Region.ready .any ops listed:=by
      unfold Region.ready;rw[List.mem_filter];refine⟨by simpa using bC,?_⟩;simp only[Bool.and_eq_true,ho,Option.map_some,Option.getD_some,Array.all_eq_true_iff_forall_mem,Bool.or_eq_true];refine⟨?_,fun e he=>?_⟩;rotate_left
      ·by_cases hbi:Region.binds .any e=true;·exact .inr (ih e.on (D.back i _ ho e he hbi) (by have:=D.back i _ ho e he hbi;omega))
       ·left;simpa using hbi
      simp[hx] at hc⊢;exact hc
     rw[hr] at Ex;simp at Ex
  rcases ajS with⟨Ed,_,_⟩|h;·have:=Ed n (Nat.le_refl _);rw[iK n hns] at this;cases this
  ·rw[hJ] at h;obtain⟨m,_,hms,_,_,Ue,Ib⟩:=h;have Rp:m=ops.size:=by
    rcases Nat.lt_or_ge m ops.size with h|h;·have:=Ue m (Nat.le_refl _);rw[iK m h] at this;cases this
    ·omega
   rw[Rp,List.drop_of_length_le (by simp)] at Ib;unfold wpList at Ib;exact Ib
 ·have:=List.countP_le_length (p:=fun i=> !(Array.replicate ops.size false).getD i true) (l:=List.range ops.size);simpa using this
 ·refine .inl ⟨fun j _=>(by by_cases hx:j < ops.size<;>simp[hx]),xA.none ops,fun _=>undef,by simp,rfl,rfl,hS.refl _,fun t i o ho _ hl=>?_,fun t _=>rfl,fun i V _ hl=>?_⟩;·have hi:i < ops.size:=(Array.getElem?_eq_some_iff.1 ho).1;simp[hi] at hl
  ·by_cases hi:i < ops.size;·simp[hi] at hl
   ·simp[hi] at hl
theorem kH {P:Program} {ops:Array Oper} {Q:Exit→Act→World→Prop} {id:Nat} {a:Act} {w:World} (S:World→World→Prop) (specs:List Spec) (n:Nat) (st:Oper) (hn1:ops.size=n+1) (Vg:ops[n]? =some st) (amW:st.guard=none) (hm:P.follows .mixedOrders=true) (qK:H9 ops n=true) (A5:Mj ops n=true) (hS:N4 S)
 (h:aS P ops S w.drew (fun facts aF=>∀w',S w.drew w'→AY facts w'→st.wp P aF w' (fun a'' yT=>Q .normal a'' yT) (fun e a'' yT=>Q e a'' yT)) (ops.toList.take n) specs [] a):(Code.region id ops true).wp P Q a w:=by
 have Ud:Ia ops n=true:=by
  unfold Ia;rw[List.all_eq_true];intro j hj;rw[List.all_eq_true];intro i hi;have h1:j < ops.size:=by simpa using hj
  have h2:i < j:=by simpa using hi
  have h3:i < n:=by omega
  simp[h3]
 refine AZ S specs n st Vg hm qK A5 Ud hS ?_;have hdr:ops.toList.drop n=[st]:=by
  have bC:n < ops.size:=by omega
  rw[List.drop_eq_getElem_cons (by simpa using bC),List.drop_of_length_le (by simp;omega)];congr 1;have:=(Array.getElem?_eq_some_iff.1 Vg).2;simpa using this
 rw[hdr];have key:∀(L:List Oper) (s:List Spec) (facts:List (Tmp×(World→Prop))) (b:Act),aS P ops S w.drew (fun facts aF=>∀w',S w.drew w'→AY facts w'→st.wp P aF w' (fun a'' yT=>Q .normal a'' yT) (fun e a'' yT=>Q e a'' yT)) L s facts b→aS P ops S w.drew (fun facts aF=>∀w',S w.drew w'→AY facts w'→wpList P ops Q [st] aF w') L s facts b:=by
  intro L;induction L with
  |nil=>
   intro s facts b hh;cases s with
   |nil=>intro w' h1 h2;unfold wpList;rw[if_pos (by unfold Region.wanted;rw[amW])];exact .inl (Oper.wp_mono (fun a'' yT hq=>by unfold wpList;exact hq) (hh w' h1 h2))
   |cons=>exact hh
  |cons o L ih=>
   intro s facts b hh;cases s with
   |nil=>exact hh
   |cons p s=>
    cases p with
    |val v=>exact⟨hh.1,ih _ _ _ hh.2⟩
    |any V=>obtain⟨t,h1,h2,h3⟩:=hh;exact⟨t,h1,h2,fun u=>ih _ _ _ (h3 u)⟩
 exact key _ _ _ _ h
end Go.Proofs.YtmgmclkplepapaaGreatDoor
