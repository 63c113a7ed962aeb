/- Part of the proof of TopBoundsUptoCardSaid. Conditions: none beyond the statement. -/
import Derived.WalkLawsBesides
import Derived.ShutString
set_option linter.all false
set_option maxRecDepth 100000
set_option maxHeartbeats 64000000
namespace Go.Proofs.YtmgmclkplepapaaGreatDoor
open Go.RowKit
def vZ (w:World) (b:Nat) (l:List UInt8):Prop:=
 ∀j (h:j < l.length),w.cell? ⟨b,j,none⟩=some (.int .u8 (l[j].toNat:Int))∧w.frozen? ⟨b,j,none⟩=false
theorem vZ.drew {w:World} {b:Nat} {l:List UInt8} (h:vZ w b l):vZ w.drew b l:=h
theorem vZ.set {w:World} {b:Nat} {l:List UInt8} (h:vZ w b l) {k:Nat} (hk:k < l.length) (c:UInt8):
 vZ (w.setCell ⟨b,k,none⟩ (.int .u8 (c.toNat:Int))) b (l.set k c):=by
 intro j hj;simp only[List.length_set] at hj;obtain⟨h1,h2⟩:=h j hj;refine⟨?_,?_⟩
 ·by_cases e:j=k;·subst e;have hc:=World.cell?_setCell_same w ⟨b,j,none⟩ (Value.int .u8 (c.toNat:Int)) h1;simpa using hc
  ·have hc:=World.cell?_setCell_other w ⟨b,k,none⟩ ⟨b,j,none⟩ (Value.int .u8 (c.toNat:Int)) (by intro hh;injection hh with _ h2;omega);rw[hc,h1,List.getElem_set_ne (by omega)]
 ·simpa using h2
theorem hid {p:Prop} (h:p):Hid p:=h
def Mf (c:UInt8):UInt8:=if 65≤c.toNat∧c.toNat≤90 then c+32 else c
def rH (l:List UInt8):List UInt8:=l.map Mf
def mK (l:List UInt8) (k:Nat):List UInt8:=(l.take k).map Mf++l.drop k
theorem AU (l:List UInt8) (k:Nat):(mK l k).length=l.length:=by simp[mK];omega
theorem Mg (l:List UInt8):mK l 0=l:=by simp[mK]
theorem NY (l:List UInt8):mK l l.length=rH l:=by simp[mK,rH]
theorem FC (l:List UInt8) (k:Nat) (h:k < l.length):(mK l k)[k]'(by rw[AU];exact h)=l[k]:=by
 have hm:min k l.length=k:=by omega
 simp[mK,List.getElem_append,hm]
theorem Dl (l:List UInt8) (k:Nat) (h:k < l.length):mK l (k+1)=(mK l k).set k (Mf l[k]):=by
 have hl:((l.take k).map Mf).length=k:=by simp;omega
 unfold mK;rw[List.take_succ_eq_append_getElem h,List.drop_eq_getElem_cons h];rw[List.set_append_right _ _ (by omega),hl];simp only[List.map_append,List.map_cons,List.map_nil,Nat.sub_self,List.set_cons_zero,List.append_assoc,List.cons_append,List.nil_append]
theorem abT {c:UInt8} (h:65≤c.toNat∧c.toNat≤90):((Mf c).toNat:Int)=(c.toNat:Int) - 65+97:=by unfold Mf;rw[if_pos h];simp[UInt8.toNat_add];omega
theorem Ya {c:UInt8} (h:¬(65≤c.toNat∧c.toNat≤90)):Mf c=c:=by unfold Mf;rw[if_neg h]
theorem NZ (l:List UInt8) (k:Nat) (h:k < l.length) (hn:¬(65≤l[k].toNat∧l[k].toNat≤90)):mK l (k+1)=mK l k:=by rw[Dl l k h,Ya hn,←FC l k h];exact List.set_getElem_self _
theorem Dm (s:ByteArray) (w:World) (c:Nat) (t:TypeId):vZ (w.alloc (.cells (bytesRow s c) t ((bytesRow s c).size,(bytesRow s c).size+1))).drew w.heap.size s.data.toList:=by
 intro j hj;have KV:j < s.data.size:=by simpa using hj
 have bC:j < (bytesRow s c).size:=by unfold bytesRow;simp only[Array.size_append,Array.size_map];omega
 have h1:=World.cell?_alloc_mark w (bytesRow s c) t ((bytesRow s c).size,(bytesRow s c).size+1) j;rw[bytesRow_at s c j KV] at h1;have h2:=World.frozen?_alloc_mark w (bytesRow s c) t (bytesRow s c).size ((bytesRow s c).size+1) j;refine⟨?_,?_⟩;·exact h1
 ·have:decide ((bytesRow s c).size≤j)=false:=by simp;omega
  rw[this] at h2;exact h2
theorem CG (b j:Nat):(⟨b,0,none⟩:Addr).add j=⟨b,j,none⟩:=by
 unfold Addr.add;split;·next h=>rw[h]
 ·simp
theorem Below.made (s:ByteArray) (w:World) (c:Nat) (t:TypeId):Below w.heap.size w (w.alloc (.cells (bytesRow s c) t ((bytesRow s c).size,(bytesRow s c).size+1))).drew:=
 ((Below.refl _ _).alloc (Nat.le_refl _) _).drew
theorem pq:(∀(a:Act) (d:Tmp) (v:Value),a.put (some d) v={a with tmps:=a.tmps.setIfInBounds d v})∧(∀(a:Act) (v:Value),a.put none v=a)∧(∀(l:List Value) (i:Nat) (a:Value),l.toArray.setIfInBounds i a=(l.set i a).toArray)∧(∀(a b:Value) (l:List Value),(a::l).set 0 b=b::l)∧(∀(a b:Value) (l:List Value) (n:Nat),(a::l).set (n+1) b=a::l.set n b):=⟨fun _ _ _=>rfl,fun _ _=>rfl,fun _ _ _=>List.setIfInBounds_toArray ..,fun _ _ _=>rfl,fun _ _ _ _=>rfl⟩
inductive Tg:Nat→Prop|k n:Tg n
section
variable {w w0:World}
theorem aR {w':World} (h:Hid (Below w0.heap.size w0 w)) (k:Below w.heap.size w w'):Hid (Below w0.heap.size w0 w'):=hid (h.out.trans (k.mono h.out.size))
theorem bU {w':World} {n m:Nat} (h:Hid (Below n w0 w)) (k:Below m w w') (l:n≤m):Hid (Below n w0 w'):=hid (h.out.trans (k.mono l))
end
def aA (l:List UInt8):ByteArray:=⟨l.toArray⟩
theorem aC (l:List UInt8):(aA l).data.toList=l:=by simp[aA]
theorem BQ (s:ByteArray):aA s.data.toList=s:=by obtain⟨a⟩:=s;simp[aA]
theorem aD (p:List UInt8):(aA p).size=p.length:=by simp[aA,ByteArray.size]
theorem Yb {a b:List UInt8} (h:aA a=aA b):a=b:=by have:=congrArg (fun s:ByteArray=>s.data.toList) h;simpa[aA] using this
theorem Dn (s:ByteArray) (i j:Nat):(s.extract i j).data.toList=(s.data.toList.drop i).take (j - i):=by simp[ByteArray.data_extract,Array.toList_extract,List.extract]
theorem Hu (s:ByteArray) (i:Nat):(s.extract i s.size).data.toList=s.data.toList.drop i:=by rw[Dn,List.take_of_length_le];simp
theorem N1 (s:ByteArray) (i j:Nat):s.extract i j=aA ((s.data.toList.drop i).take (j - i)):=by rw[←Dn,BQ]
theorem AV (l:List UInt8) (i j:Nat):(aA l).extract i j=aA ((l.drop i).take (j - i)):=by rw[N1,aC]
theorem cX (l:List UInt8) (i:Nat):(aA l).extract i (aA l).size=aA (l.drop i):=by rw[AV,List.take_of_length_le];rw[aD,List.length_drop];omega
theorem jW (l:List UInt8) (j:Nat):(aA l).extract 0 j=aA (l.take j):=by rw[AV];simp
theorem cC (l:List UInt8):(aA l).toList.isEmpty=l.isEmpty:=by rw[ByteArray.toList_eq,aC]
theorem iL (a b:List UInt8):aA (a++b)=aA a++aA b:=by apply ByteArray.ext;simp[aA]
theorem Dp (l n:List UInt8):((aA l).toList==n)=(l==n):=by rw[ByteArray.toList_eq,aC]
theorem jI (l:List UInt8) (k:Nat) (h:k < (aA l).size):(aA l)[k]'h=l[k]'(by rwa[aD] at h):=by rfl
theorem iM {l:List UInt8} {k:Nat} (h:k < l.length):∃c:UInt8,l.drop k=c::l.drop (k+1)∧(∀h2:k < (aA l).size,(aA l)[k]'h2=c):=
 ⟨l[k],List.drop_eq_getElem_cons h,fun h2=>jI l k h2⟩
theorem xW {P:Program} {md:Region.Mode} {ops:Array Oper} {Q:Exit→Act→World→Prop} (Inv:Array Bool→Act→World→Prop)
 (Hv:∀listed a w i,Inv listed a w→i∈Region.ready md ops listed→wpOp P ops Q i (fun a' w'=>Inv (listed.setIfInBounds i true) a' w') a w)
 (Yc:∀listed a w,Inv listed a w→Region.ready md ops listed=[]→Q .normal a w):
 ∀fuel listed a w,(List.range ops.size).countP (fun i=> !listed.getD i true)≤fuel→Inv listed a w→wpAny P md ops Q fuel listed a w:=by
 intro fuel;induction fuel with
 |zero=>
  intro listed a w hc h;have hr:Region.ready md ops listed=[]:=by
   have h0:(List.range ops.size).countP (fun i=> !listed.getD i true)=0:=by omega
   rw[List.countP_eq_zero] at h0;unfold Region.ready;rw[List.filter_eq_nil_iff];intro i hi hh;have:=h0 i hi;simp only[Bool.and_eq_true] at hh;exact this hh.1
  exact⟨hr,Yc _ _ _ h hr⟩
 |succ fuel ih=>
  intro listed a w hc h;refine⟨fun hr=>Yc _ _ _ h hr,fun i hi=>wpOp_mono (fun a' w' h'=>ih _ _ _ ?_ h') (Hv _ _ _ i h hi)⟩;have Rj:=hi;unfold Region.ready at Rj;rw[List.mem_filter] at Rj;obtain⟨hm,hp⟩:=Rj;simp only[Bool.and_eq_true] at hp;have bC:i < ops.size:=by simpa using hm
  have T9:(!listed.getD i true)=true:=hp.1;have GX:i < listed.size:=by
   by_cases hs:i < listed.size;·exact hs
   ·simp[hs] at T9
  have key:∀l:List Nat,l.Nodup→i∈l→l.countP (fun k=> !(listed.setIfInBounds i true).getD k true)+1=l.countP (fun k=> !listed.getD k true):=by
   intro l;induction l with
   |nil=>intro _ h;simp at h
   |cons x l ih2=>
    intro hn hx;rw[List.nodup_cons] at hn;by_cases hxi:x=i
    ·subst hxi;have lY:l.countP (fun k=> !(listed.setIfInBounds x true).getD k true)=l.countP (fun k=> !listed.getD k true):=by apply List.countP_congr;intro k hk;have eG:x≠k:=fun e=>hn.1 (e▸hk);simp[eG]
     rw[List.countP_cons,List.countP_cons,lY,T9];simp[GX]
    ·have Ew:i∈l:=by
      rcases List.mem_cons.1 hx with h|h;·exact absurd h.symm hxi
      ·exact h
     have:=ih2 hn.2 Ew;have eG:i≠x:=fun e=>hxi e.symm;rw[List.countP_cons,List.countP_cons];have he:(listed.setIfInBounds i true).getD x true=listed.getD x true:=by simp[eG]
     rw[he];omega
  have:=key _ List.nodup_range (by simpa using bC);omega
theorem nE {ops:Array Oper} {listed:Array Bool} {i:Nat} (h:i∈Region.ready .any ops listed) {o:Oper} (ho:ops[i]? =some o):
 listed.getD i true=false∧∀e∈o.after,Region.binds .any e=true→listed.getD e.on false=true:=by
 unfold Region.ready at h;rw[List.mem_filter] at h;obtain⟨_,hp⟩:=h;simp only[Bool.and_eq_true,ho,Option.map_some,Option.getD_some,Array.all_eq_true_iff_forall_mem,Bool.or_eq_true,Bool.not_eq_true'] at hp;refine⟨by simpa using hp.1,fun e he hb=>?_⟩;rcases hp.2 e he with h|h;·rw[hb] at h;simp at h
 ·exact h
def Rk (P:Program) (ops:Array Oper) (I:World→Prop) (o:Oper) (a:Act) (v:Value):Prop:=
 (Region.wanted o (yielded ops a.tmps)=false∧v=undef)∨
 (Region.wanted o (yielded ops a.tmps)=true∧∀w,I w→o.wp P a w (fun a' w'=>a'=a.put o.dst v∧I w') (fun _ _ _=>False))
def lQ (P:Program) (ops:Array Oper) (I:World→Prop) (Fin:Act→Prop):List Oper→Act→Prop
 |[],a=>Fin a
 |o::r,a=>∃v,Rk P ops I o a v∧lQ P ops I Fin r (a.put o.dst v)
theorem lQ.step {P:Program} {ops:Array Oper} {I:World→Prop} {Fin:Act→Prop} {o:Oper} {r:List Oper} {a:Act} {v:Value} (hw:Region.wanted o (yielded ops a.tmps)=true)
 (h:∀w,I w→o.wp P a w (fun a' w'=>a'=a.put o.dst v∧I w') (fun _ _ _=>False)) (hr:lQ P ops I Fin r (a.put o.dst v)):lQ P ops I Fin (o::r) a:=
 ⟨v,.inr ⟨hw,h⟩,hr⟩
theorem lQ.afB {P:Program} {ops:Array Oper} {I:World→Prop} {Fin:Act→Prop} {o:Oper} {r:List Oper} {a:Act} {v:Value} (hw:Region.wanted o (yielded ops a.tmps)=true)
 (h:∀w,I w→∀K:Act→World→Prop,(∀w',I w'→K (a.put o.dst v) w')→o.wp P a w K (fun _ _ _=>False)) (hr:lQ P ops I Fin r (a.put o.dst v)):lQ P ops I Fin (o::r) a:=
 .step hw (fun w hI=>h w hI _ fun _ h'=>⟨rfl,h'⟩) hr
theorem lQ.skip {P:Program} {ops:Array Oper} {I:World→Prop} {Fin:Act→Prop} {o:Oper} {r:List Oper} {a:Act} (hw:Region.wanted o (yielded ops a.tmps)=false)
 (hr:lQ P ops I Fin r (a.put o.dst undef)):lQ P ops I Fin (o::r) a:=
 ⟨undef,.inl ⟨hw,rfl⟩,hr⟩
theorem lQ.nil {P:Program} {ops:Array Oper} {I:World→Prop} {Fin:Act→Prop} {a:Act} (h:Fin a):lQ P ops I Fin [] a:=h
def Ua (ops:Array Oper):Bool:=
 (List.range ops.size).all fun i=>match ops[i]? with
   |none=>true
   |some o=>(o.after.all fun e=>decide (e.on < i))&&(match o.op with| .select .. =>false|_=>true)&&
     ((o.looksAt ops).all fun t=>(List.range ops.size).all fun j=>match ops[j]? with
       |some p=>if p.dst==some t then o.after.any (fun e=>Region.binds .any e&&e.on==j) else true
       |none=>true)&&
     (List.range i).all fun j=>match ops[j]? with
       |some p=>p.dst.isNone||p.dst !=o.dst
       |none=>true
structure Ub (ops:Array Oper):Prop where
 back:∀(i:Nat) (o:Oper),ops[i]? =some o→∀e∈o.after,e.on < i
 plain:∀(i:Nat) (o:Oper),ops[i]? =some o→∀cs b,o.op≠ .select cs b
 ahead:∀(i:Nat) (o:Oper),ops[i]? =some o→∀t∈o.looksAt ops,∀(j:Nat) (p:Oper),ops[j]? =some p→p.dst=some t→∃e∈o.after,Region.binds .any e=true∧e.on=j
 once:∀(i:Nat) (o:Oper) (j:Nat) (p:Oper),ops[i]? =some o→ops[j]? =some p→j < i→∀t,p.dst=some t→o.dst≠some t
theorem Ub.of {ops:Array Oper} (h:Ua ops=true):Ub ops:=by
 have key:∀(i:Nat) (o:Oper),ops[i]? =some o→(∀e∈o.after,e.on < i)∧(∀cs b,o.op≠ .select cs b)∧
  (∀t∈o.looksAt ops,∀(j:Nat) (p:Oper),ops[j]? =some p→p.dst=some t→∃e∈o.after,Region.binds .any e=true∧e.on=j)∧
  (∀(j:Nat) (p:Oper),ops[j]? =some p→j < i→∀t,p.dst=some t→o.dst≠some t):=by
  intro i o ho;have hi:i < ops.size:=(Array.getElem?_eq_some_iff.1 ho).1;unfold Ua at h;rw[List.all_eq_true] at h;have h1:=h i (by simpa using hi);simp only[ho,Bool.and_eq_true] at h1;obtain⟨⟨⟨h2,h3⟩,h4⟩,h5⟩:=h1;refine⟨fun e he=>?_,fun cs b hs=>?_,fun t ht j p hj hp=>?_,fun j p hj bC t hp ho'=>?_⟩;·rw[Array.all_eq_true_iff_forall_mem] at h2;simpa using h2 e he
  ·rw[hs] at h3;simp at h3
  ·rw[List.all_eq_true] at h4;have h6:=h4 t ht;rw[List.all_eq_true] at h6;have hjl:j < ops.size:=(Array.getElem?_eq_some_iff.1 hj).1;have h7:=h6 j (by simpa using hjl);simp only[hj,hp,beq_self_eq_true,if_true,Array.any_eq_true'] at h7;obtain⟨e,he,hb⟩:=h7;simp only[Bool.and_eq_true,beq_iff_eq] at hb;exact⟨e,he,hb.1,hb.2⟩
  ·rw[List.all_eq_true] at h5;have h6:=h5 j (by simpa using bC);simp[hj,hp,ho'] at h6
 exact⟨fun i o ho=>(key i o ho).1,fun i o ho=>(key i o ho).2.1,fun i o ho=>(key i o ho).2.2.1,fun i o j p ho hj bC=>(key i o ho).2.2.2 j p hj bC⟩
theorem sQ (a:Act) (d:Option Tmp) (v:Value):(a.put d v).tmps.size=a.tmps.size:=by cases d<;>simp[Act.put]
theorem mW (a:Act) (d:Option Tmp) (v:Value):(a.put d v).defers=a.defers:=by cases d<;>simp[Act.put]
theorem gY (a:Act) {d:Option Tmp} (v:Value) {t:Tmp} (h:d≠some t):(a.put d v).tmps[t]? =a.tmps[t]? :=by
 cases d with
 |none=>rfl
 |some d=>have:d≠t:=fun e=>h (by rw[e]);simp[Act.put,this]
theorem N2 {a b:Act} (d:Option Tmp) (v:Value) {t:Tmp} (h:d=some t) (hs:a.tmps.size=b.tmps.size):(a.put d v).tmps[t]? =(b.put d v).tmps[t]? :=by subst h;simp[Act.put,Array.getElem?_setIfInBounds,hs]
theorem rT {a b:Act} {d:Option Tmp} {v u:Value} (h:a.put d v=a.put d u) (hs:b.tmps.size=a.tmps.size):b.put d v=b.put d u:=by
 cases d with
 |none=>rfl
 |some d=>
  have h1:=congrArg (fun x:Act=>x.tmps[d]?) h;by_cases hd:d < a.tmps.size;·simp[Act.put,hd] at h1;rw[h1]
  ·have hd':b.tmps.size≤d:=by rw[hs];exact Nat.le_of_not_lt hd
   simp[Act.put,Array.setIfInBounds_eq_of_size_le hd']
theorem lQ.wY {P:Program} {ops:Array Oper} {I:World→Prop} {Fin:Act→Prop}:∀(L:List Oper) (a:Act),lQ P ops I Fin L a→
 ∃st:Nat→Act,st 0=a∧Fin (st L.length)∧∀(i:Nat) (o:Oper),L[i]? =some o→∃v,Rk P ops I o (st i) v∧st (i+1)=(st i).put o.dst v
 |[],a,h=>⟨fun _=>a,rfl,h,fun i o h=>by simp at h⟩
 |o::L,a,⟨v,hv,hr⟩=>by
  obtain⟨st,h0,hF,hs⟩:=lQ.wY L _ hr;refine⟨fun k=>match k with|0=>a|k+1=>st k,rfl,hF,fun i p hp=>?_⟩;cases i with
  |zero=>simp at hp;subst hp;exact⟨v,hv,h0⟩
  |succ i=>exact hs i p (by simpa using hp)
structure ajM (ops:Array Oper) (I:World→Prop) (a aF:Act) (listed:Array Bool) (b:Act) (w:World):Prop where
 size:listed.size=ops.size
 defs:b.defers=a.defers
 Am:b.tmps.size=a.tmps.size
 world:I w
 done:∀(t:Tmp) (i:Nat) (o:Oper),ops[i]? =some o→o.dst=some t→listed.getD i false=true→b.tmps[t]? =aF.tmps[t]?
 todo:∀t:Tmp,(∀(i:Nat) (o:Oper),ops[i]? =some o→o.dst=some t→listed.getD i false=false)→b.tmps[t]? =a.tmps[t]?
theorem rU {ops:Array Oper} {x y:Array Value} {j:Nat} (h:∀t,((ops[j]?).bind (·.dst))=some t→x[t]? =y[t]?):yielded ops x j=yielded ops y j:=by
 unfold yielded;cases hd:(ops[j]?).bind (·.dst) with
 |none=>rfl
 |some t=>simp only[Option.bind_some,h t hd]
theorem Rl {P:Program} {ops:Array Oper} {Q:Exit→Act→World→Prop} {id:Nat} {a:Act} {w:World} (I:World→Prop) (hm:P.follows .mixedOrders=true) (qJ:Ua ops=true)
 (hI:I w.drew) (h:lQ P ops I (fun aF=>∀w',I w'→Q .normal aF w') ops.toList a):(Code.region id ops true).wp P Q a w:=by
 have D:=Ub.of qJ;obtain⟨st,h0,hF,hs⟩:=lQ.wY _ _ h;have hs':∀(i:Nat) (o:Oper),ops[i]? =some o→∃v,Rk P ops I o (st i) v∧st (i+1)=(st i).put o.dst v:=fun i o ho=>hs i o (by simpa using ho);have hn:ops.toList.length=ops.size:=by simp
 rw[hn] at hF;have sR:∀k,k≤ops.size→(st k).tmps.size=a.tmps.size∧(st k).defers=a.defers:=by
  intro k;induction k with
  |zero=>intro _;rw[h0];exact⟨rfl,rfl⟩
  |succ k ih=>intro hk;obtain⟨v,_,e⟩:=hs' k ops[k] (Array.getElem?_eq_getElem (by omega));rw[e,sQ,mW];exact ih (by omega)
 have Yd:∀k,k≤ops.size→∀t:Tmp,(∀(j:Nat) (o:Oper),j < k→ops[j]? =some o→o.dst≠some t)→(st k).tmps[t]? =a.tmps[t]? :=by
  intro k;induction k with
  |zero=>intro _ t _;rw[h0]
  |succ k ih=>intro hk t wT;obtain⟨v,_,e⟩:=hs' k ops[k] (Array.getElem?_eq_getElem (by omega));rw[e,gY _ _ (wT k ops[k] (by omega) (Array.getElem?_eq_getElem (by omega)))];exact ih (by omega) t fun j o hj=>wT j o (by omega)
 have Hw:∀(i:Nat) (o:Oper) (t:Tmp),ops[i]? =some o→o.dst=some t→∀k,i+1≤k→k≤ops.size→(st k).tmps[t]? =(st (i+1)).tmps[t]? :=by
  intro i o t ho ht k;induction k with
  |zero=>intro h _;omega
  |succ k ih=>
   intro hk jY;by_cases e:k=i;·subst e;rfl
   ·obtain⟨v,_,e'⟩:=hs' k ops[k] (Array.getElem?_eq_getElem (by omega));rw[e',gY _ _ (D.once k ops[k] i o (Array.getElem?_eq_getElem (by omega)) ho (by omega) t ht)];exact ih (by omega) (by omega)
 refine wp_region_any hm (xW (ajM ops I a (st ops.size)) ?_ ?_ _ _ _ _ ?_ ?_)
 ·intro listed b w i hinv hi;have bC:i < ops.size:=by have:=(List.mem_filter.1 hi).1;simpa using this
  have ho:ops[i]? =some ops[i]:=Array.getElem?_eq_getElem bC;generalize ops[i]=o at ho;obtain⟨r1,r2⟩:=nE hi ho;obtain⟨v,hv,tG⟩:=hs' i o ho;have T9:i < listed.size:=by rw[hinv.size];exact bC
  have agree:∀t∈o.looksAt ops,b.tmps[t]? =(st i).tmps[t]? :=by
   intro t ht;by_cases hex:∃(j:Nat) (p:Oper),ops[j]? =some p∧p.dst=some t
   ·obtain⟨j,p,hj,hp⟩:=hex;obtain⟨e,he,hb,oZ⟩:=D.ahead i o ho t ht j p hj hp;have hlj:listed.getD j false=true:=by rw[←oZ];exact r2 e he hb
    have GZ:j < i:=by rw[←oZ];exact D.back i o ho e he
    rw[hinv.done t j p hj hp hlj,Hw j p t hj hp ops.size (by omega) (Nat.le_refl _),Hw j p t hj hp i (by omega) (by omega)]
   ·rw[hinv.todo t fun j p hj hp=>absurd ⟨j,p,hj,hp⟩ hex,Yd i (by omega) t fun j p _ hj hp=>hex ⟨j,p,hj,hp⟩]
  have rB:b.tmps.size=(st i).tmps.size:=by rw[hinv.Am,(sR i (by omega)).1]
  have uT:∀w',I w'→ajM ops I a (st ops.size) (listed.setIfInBounds i true) (b.put o.dst v) w':=by
   intro w' CH;refine⟨by simpa using hinv.size,by rw[mW];exact hinv.defs,by rw[sQ];exact hinv.Am,CH,fun t j p hj hp hl=>?_,fun t wT=>?_⟩
   ·by_cases e:j=i;·subst e;rw[ho] at hj;cases hj;rw[Hw j o t ho hp ops.size (by omega) (Nat.le_refl _),tG];exact N2 _ _ hp rB
    ·have eG:o.dst≠some t:=by
      by_cases GZ:j < i;·exact D.once i o j p ho hj GZ t hp
      ·exact fun e'=>D.once j p i o hj ho (by omega) t e' hp
     rw[gY _ _ eG];refine hinv.done t j p hj hp ?_;simpa[Ne.symm e] using hl
   ·have eG:o.dst≠some t:=fun e'=>by have:=wT i o ho e';simp[T9] at this
    rw[gY _ _ eG];refine hinv.todo t fun j p hj hp=>?_;have:=wT j p hj hp;by_cases e:j=i;·subst e;rw[ho] at hj;cases hj;exact absurd hp eG
    ·simpa[Ne.symm e] using this
  have xX:Region.wanted o (yielded ops b.tmps)=Region.wanted o (yielded ops (st i).tmps):=by
   unfold Region.wanted;cases hg:o.guard with
   |none=>rfl
   |some g=>obtain⟨j,want⟩:=g;simp only[];rw[rU (x:=b.tmps) (y:=(st i).tmps) (j:=j) fun t ht=>agree t (by simp[Oper.looksAt,hg,ht])]
  unfold wpOp;rw[ho];simp only[];rcases hv with⟨hw,hvu⟩|⟨hw,uU⟩;·rw[xX,hw];subst hvu;exact uT _ hinv.world
  ·rw[xX,hw];simp only[if_true];left;have hev:execOp b.eval o=execOp (st i).eval o:=by
    refine execOp_congr o (D.plain i o ho) fun x hx=>?_;cases x with
    |tmp t=>
     have:=agree t (by
      unfold Oper.looksAt;refine List.mem_append_left _ (List.mem_filterMap.2 ⟨.tmp t,by simpa using hx,rfl⟩))
     simp only[Act.eval,Array.getD_eq_getD_getElem?,this]
    |_=>rfl
   have hr:=uU w hinv.world;unfold Oper.wp at hr⊢;rw[hev];generalize (execOp (st i).eval o).run P w=res at hr;cases res with
   |ok nx w'=>
    cases nx with
    |value u=>simp only[Oper.upon] at hr⊢;rw[rT hr.1 rB];exact uT _ hr.2
    |skip=>simp only[Oper.upon] at hr⊢;rw[rT hr.1 rB];exact uT _ hr.2
    |enter f args=>
     simp only[Oper.upon] at hr⊢;refine Calls.mono hr fun e yS he=>?_;cases e with
     |returned u=>simp only[] at he⊢;rw[rT he.1 rB];exact uT _ he.2
     |panicked ch=>exact absurd he (by simp)
     |outgrown=>simp only[] at he;obtain⟨_,_,hh⟩:=he;exact absurd hh (by simp)
    |row rw' args=>simp only[Oper.upon] at hr⊢;refine Rows.mono hr fun u yS he=>?_;rw[rT he.1 rB];exact uT _ he.2
    |_=>first|(simp only[Oper.upon] at hr;done)|(simp only[Oper.upon] at hr;have:=congrArg (fun x:Act=>x.defers) hr.1;simp[mW] at this)
   |halt x w'=>cases x<;>simp only[Oper.upon] at hr
 ·intro listed b w hinv hr;have iJ:∀i:Nat,i < ops.size→listed.getD i false=true:=by
   intro i;induction i using Nat.strongRecOn with
   |_ i ih=>
    intro bC;cases hc:listed.getD i false with
    |true=>rfl
    |false=>
     exfalso;have ho:ops[i]? =some ops[i]:=Array.getElem?_eq_getElem bC;have hx:i < listed.size:=by rw[hinv.size];exact bC
     have Ew:i∈Region.ready .any ops listed:=by unfold Region.ready;rw[List.mem_filter];refine⟨by simpa using bC,?_⟩;simp only[Bool.and_eq_true,ho,Option.map_some,Option.getD_some,Array.all_eq_true_iff_forall_mem,Bool.or_eq_true];refine⟨?_,fun e he=> .inr (ih e.on (D.back i _ ho e he) (by have:=D.back i _ ho e he;omega))⟩;simp[hx] at hc⊢;exact hc
     rw[hr] at Ew;simp at Ew
  have hb:b=st ops.size:=by
   have ht:b.tmps=(st ops.size).tmps:=by
    apply Array.ext_getElem?;intro t;by_cases hex:∃(j:Nat) (p:Oper),ops[j]? =some p∧p.dst=some t;·obtain⟨j,p,hj,hp⟩:=hex;exact hinv.done t j p hj hp (iJ j (Array.getElem?_eq_some_iff.1 hj).1)
    ·rw[hinv.todo t fun j p hj hp=>absurd ⟨j,p,hj,hp⟩ hex,Yd ops.size (Nat.le_refl _) t fun j p _ hj hp=>hex ⟨j,p,hj,hp⟩]
   have hd:b.defers=(st ops.size).defers:=by rw[hinv.defs,(sR _ (Nat.le_refl _)).2]
   cases b;cases tG:st ops.size;rw[tG] at ht hd;simp only at ht hd;rw[ht,hd]
  rw[hb];exact hF w hinv.world
 ·have:=List.countP_le_length (p:=fun i=> !(Array.replicate ops.size false).getD i true) (l:=List.range ops.size);simpa using this
 ·exact⟨by simp,rfl,rfl,hI,fun t i o ho _ hl=>by
   have hi:i < ops.size:=(Array.getElem?_eq_some_iff.1 ho).1;simp[hi] at hl,fun t _=>rfl⟩
inductive Spec where
 |val (v:Value)
 |any (V:Value→World→Prop)
def AW (ops:Array Oper) (o:Oper):List (Tmp×(World→Prop))→World→Prop
 |[],_=>True
 |p::r,w=>((o.looksAt ops).contains p.1=true→p.2 w)∧AW ops o r w
def AX:List (Tmp×(World→Prop))→World→Prop
 |[],_=>True
 |p::r,w=>p.2 w∧AX r w
structure N3 (S:World→World→Prop):Prop where
 refl:∀w,S w w
 trans:∀{x y z},S x y→S y z→S x z
def afC (P:Program) (ops:Array Oper) (S:World→World→Prop) (w0:World) (facts:List (Tmp×(World→Prop))) (o:Oper) (a:Act) (v:Value):Prop:=
 (Region.wanted o (yielded ops a.tmps)=false∧v=undef)∨
 (Region.wanted o (yielded ops a.tmps)=true∧∀w,S w0 w→AW ops o facts w→∀K:Act→World→Prop,(∀w',S w w'→K (a.put o.dst v) w')→o.wp P a w K (fun _ _ _=>False))
def afD (P:Program) (ops:Array Oper) (S:World→World→Prop) (w0:World) (facts:List (Tmp×(World→Prop))) (o:Oper) (a:Act) (V:Value→World→Prop):Prop:=
 Region.wanted o (yielded ops a.tmps)=true∧(∀v w w',V v w→S w w'→V v w')∧
 ∀w,S w0 w→AW ops o facts w→∀K:Act→World→Prop,(∀u w',S w w'→V u w'→K (a.put o.dst u) w')→o.wp P a w K (fun _ _ _=>False)
def aS (P:Program) (ops:Array Oper) (S:World→World→Prop) (w0:World) (Fin:List (Tmp×(World→Prop))→Act→Prop):
 List Oper→List Spec→List (Tmp×(World→Prop))→Act→Prop
 |[],[],facts,a=>Fin facts a
 |o::r,.val v::s,facts,a=>afC P ops S w0 facts o a v∧aS P ops S w0 Fin r s facts (a.put o.dst v)
 |o::r,.any V::s,facts,a=>∃t,o.dst=some t∧afD P ops S w0 facts o a V∧∀u,aS P ops S w0 Fin r s ((t,V u)::facts) (a.put o.dst u)
 |_,_,_,_=>False
section
variable {P:Program} {ops:Array Oper} {S:World→World→Prop} {w0:World} {Fin:List (Tmp×(World→Prop))→Act→Prop} {o:Oper} {r:List Oper} {s:List Spec} {facts:List (Tmp×(World→Prop))} {a:Act}
theorem aS.val {v:Value} (hw:Region.wanted o (yielded ops a.tmps)=true)
 (h:∀w,S w0 w→AW ops o facts w→∀K:Act→World→Prop,(∀w',S w w'→K (a.put o.dst v) w')→o.wp P a w K (fun _ _ _=>False))
 (hr:aS P ops S w0 Fin r s facts (a.put o.dst v)):aS P ops S w0 Fin (o::r) (.val v::s) facts a:=⟨.inr ⟨hw,h⟩,hr⟩
theorem aS.skip (hw:Region.wanted o (yielded ops a.tmps)=false)
 (hr:aS P ops S w0 Fin r s facts (a.put o.dst undef)):aS P ops S w0 Fin (o::r) (.val undef::s) facts a:=⟨.inl ⟨hw,rfl⟩,hr⟩
theorem aS.any {V:Value→World→Prop} {t:Tmp} (ht:o.dst=some t) (hw:Region.wanted o (yielded ops a.tmps)=true) (hV:∀v w w',V v w→S w w'→V v w')
 (h:∀w,S w0 w→AW ops o facts w→∀K:Act→World→Prop,(∀u w',S w w'→V u w'→K (a.put o.dst u) w')→o.wp P a w K (fun _ _ _=>False))
 (hr:∀u,aS P ops S w0 Fin r s ((t,V u)::facts) (a.put o.dst u)):aS P ops S w0 Fin (o::r) (.any V::s) facts a:=⟨t,ht,⟨hw,hV,h⟩,hr⟩
theorem aS.nil (h:Fin facts a):aS P ops S w0 Fin [] [] facts a:=h
end
def nS (specs:List Spec) (vs:Nat→Value) (i:Nat):Value:=
 match specs[i]? with
 |some (.val v)=>v
 |some (.any _)=>vs i
 |none=>undef
def rV (L:List Oper) (specs:List Spec) (vs:Nat→Value) (a:Act):Nat→Act
 |0=>a
 |k+1=>match L[k]? with
  |some o=>(rV L specs vs a k).put o.dst (nS specs vs k)
  |none=>rV L specs vs a k
theorem BR (o:Oper) (L:List Oper) (p:Spec) (specs:List Spec) (vs:Nat→Value) (a:Act) (k:Nat):
 rV (o::L) (p::specs) vs a (k+1)=rV L specs (fun i=>vs (i+1)) (a.put o.dst (nS (p::specs) vs 0)) k:=by
 induction k with
 |zero=>simp[rV]
 |succ k ih=>
  rw[rV,ih];simp only[List.getElem?_cons_succ];rw[rV];cases L[k]? with
  |none=>rfl
  |some q=>simp only[nS,List.getElem?_cons_succ]
def uK (L:List Oper) (specs:List Spec) (vs:Nat→Value) (i:Nat) (base facts:List (Tmp×(World→Prop))):Prop:=
 ∀p∈facts,p∈base∨∃j o V,j < i∧L[j]? =some o∧specs[j]? =some (.any V)∧o.dst=some p.1∧p.2=V (vs j)
theorem aS.wY {P:Program} {ops:Array Oper} {S:World→World→Prop} {w0:World} {Fin:List (Tmp×(World→Prop))→Act→Prop}:
 ∀(L:List Oper) (specs:List Spec) (base:List (Tmp×(World→Prop))) (a:Act),aS P ops S w0 Fin L specs base a→∀vs:Nat→Value,
  (∃facts,uK L specs vs L.length base facts∧Fin facts (rV L specs vs a L.length))∧
  ∀(i:Nat) (o:Oper),L[i]? =some o→∃facts,uK L specs vs i base facts∧
   ((∃v,specs[i]? =some (.val v)∧afC P ops S w0 facts o (rV L specs vs a i) v)∨
    (∃V t,specs[i]? =some (.any V)∧o.dst=some t∧afD P ops S w0 facts o (rV L specs vs a i) V))
 |[],[],base,a,h,vs=>⟨⟨base,fun p hp=> .inl hp,h⟩,fun i o ho=>by simp at ho⟩
 |[],_::_,base,a,h,vs=>by simp[aS] at h
 |_::_,[],base,a,h,vs=>by simp[aS] at h
 |o::L,.val v::specs,base,a,h,vs=>by
  obtain⟨hv,hr⟩:=h;obtain⟨⟨facts,h1,h2⟩,h3⟩:=aS.wY L specs base _ hr (fun i=>vs (i+1));have lift:∀{i:Nat} {facts:List (Tmp×(World→Prop))},uK L specs (fun i=>vs (i+1)) i base facts→uK (o::L) (.val v::specs) vs (i+1) base facts:=by
   intro i facts hf p hp;rcases hf p hp with h|⟨j,q,V,hj,e1,e2,e3,e4⟩;·exact .inl h
   ·exact .inr ⟨j+1,q,V,by omega,by simpa using e1,by simpa using e2,e3,e4⟩
  refine⟨⟨facts,lift h1,?_⟩,fun i q hq=>?_⟩;·rw[List.length_cons,BR];exact h2
  ·cases i with
   |zero=>simp at hq;subst hq;exact⟨base,fun p hp=> .inl hp,.inl ⟨v,rfl,hv⟩⟩
   |succ i=>obtain⟨f,k1,k2⟩:=h3 i q (by simpa using hq);refine⟨f,lift k1,?_⟩;rw[BR];simpa[nS] using k2
 |o::L,.any V::specs,base,a,h,vs=>by
  obtain⟨t,ht,hv,hr⟩:=h;obtain⟨⟨facts,h1,h2⟩,h3⟩:=aS.wY L specs _ _ (hr (vs 0)) (fun i=>vs (i+1));have lift:∀{i:Nat} {facts:List (Tmp×(World→Prop))},uK L specs (fun i=>vs (i+1)) i ((t,V (vs 0))::base) facts→uK (o::L) (.any V::specs) vs (i+1) base facts:=by
   intro i facts hf p hp;rcases hf p hp with h|⟨j,q,V',hj,e1,e2,e3,e4⟩
   ·rcases List.mem_cons.1 h with h|h;·exact .inr ⟨0,o,V,by omega,rfl,rfl,by rw[h,ht],by rw[h]⟩
    ·exact .inl h
   ·exact .inr ⟨j+1,q,V',by omega,by simpa using e1,by simpa using e2,e3,e4⟩
  refine⟨⟨facts,lift h1,?_⟩,fun i q hq=>?_⟩;·rw[List.length_cons,BR];exact h2
  ·cases i with
   |zero=>simp at hq;subst hq;exact⟨base,fun p hp=> .inl hp,.inr ⟨V,t,rfl,ht,hv⟩⟩
   |succ i=>obtain⟨f,k1,k2⟩:=h3 i q (by simpa using hq);refine⟨f,lift k1,?_⟩;rw[BR];simpa[nS] using k2
theorem AX.of {facts:List (Tmp×(World→Prop))} {w:World} (h:∀p∈facts,p.2 w):AX facts w:=by
 induction facts with
 |nil=>trivial
 |cons p r ih=>exact⟨h p (by simp),ih fun q hq=>h q (by simp[hq])⟩
theorem AW.of {ops:Array Oper} {o:Oper} {facts:List (Tmp×(World→Prop))} {w:World} (h:∀p∈facts,p.1∈o.looksAt ops→p.2 w):AW ops o facts w:=by
 induction facts with
 |nil=>trivial
 |cons p r ih=>exact⟨fun hc=>h p (by simp) (by simpa using hc),ih fun q hq=>h q (by simp[hq])⟩
structure Ex (ops:Array Oper) (S:World→World→Prop) (w0:World) (specs:List Spec) (a:Act) (vs:Nat→Value) (listed:Array Bool) (b:Act) (w:World):Prop where
 size:listed.size=ops.size
 defs:b.defers=a.defers
 Am:b.tmps.size=a.tmps.size
 world:S w0 w
 done:∀(t:Tmp) (i:Nat) (o:Oper),ops[i]? =some o→o.dst=some t→listed.getD i false=true→b.tmps[t]? =(a.put (some t) (nS specs vs i)).tmps[t]?
 todo:∀t:Tmp,(∀(i:Nat) (o:Oper),ops[i]? =some o→o.dst=some t→listed.getD i false=false)→b.tmps[t]? =a.tmps[t]?
 known:∀(i:Nat) (V:Value→World→Prop),specs[i]? =some (.any V)→listed.getD i false=true→V (vs i) w
theorem sS (a:Act) (t:Tmp) (v:Value):(a.put (some t) v).tmps[t]? =if t < a.tmps.size then some v else none:=by simp[Act.put,Array.getElem?_setIfInBounds]
theorem Ey {P:Program} {ops:Array Oper} {Q:Exit→Act→World→Prop} {id:Nat} {a:Act} {w:World} (S:World→World→Prop) (specs:List Spec) (hm:P.follows .mixedOrders=true) (qJ:Ua ops=true) (hS:N3 S)
 (h:aS P ops S w.drew (fun facts aF=>∀w',S w.drew w'→AX facts w'→Q .normal aF w') ops.toList specs [] a):(Code.region id ops true).wp P Q a w:=by
 have D:=Ub.of qJ;have hn:ops.toList.length=ops.size:=by simp
 have tG:=aS.wY _ _ _ _ h;rw[hn] at tG;have Ay:∀i:Nat,ops.toList[i]? =ops[i]? :=fun i=>by simp
 have sR:∀vs k,(rV ops.toList specs vs a k).tmps.size=a.tmps.size∧(rV ops.toList specs vs a k).defers=a.defers:=by
  intro vs k;induction k with
  |zero=>exact⟨rfl,rfl⟩
  |succ k ih=>
   rw[rV];cases ops.toList[k]? with
   |none=>exact ih
   |some o=>simp only[sQ,mW];exact ih
 have Yd:∀vs k,∀t:Tmp,(∀(j:Nat) (o:Oper),j < k→ops[j]? =some o→o.dst≠some t)→(rV ops.toList specs vs a k).tmps[t]? =a.tmps[t]? :=by
  intro vs k;induction k with
  |zero=>intro t _;rfl
  |succ k ih=>
   intro t wT;rw[rV];cases ho:ops.toList[k]? with
   |none=>exact ih t fun j o hj=>wT j o (by omega)
   |some o=>simp only[];rw[gY _ _ (wT k o (by omega) (by rw[←Ay];exact ho))];exact ih t fun j o hj=>wT j o (by omega)
 have N4:∀vs k (i:Nat) (o:Oper) (t:Tmp),ops[i]? =some o→o.dst=some t→i < k→(rV ops.toList specs vs a k).tmps[t]? =(a.put (some t) (nS specs vs i)).tmps[t]? :=by
  intro vs k;induction k with
  |zero=>intro i o t _ _ hk;omega
  |succ k ih=>
   intro i o t ho ht hk;rw[rV];by_cases e:k=i;·subst e;rw[Ay,ho];simp only[ht];rw[sS,sS,(sR vs k).1]
   ·cases hq:ops.toList[k]? with
    |none=>exact ih i o t ho ht (by omega)
    |some q=>simp only[];rw[gY _ _ (D.once k q i o (by rw[←Ay];exact hq) ho (by omega) t ht)];exact ih i o t ho ht (by omega)
 refine wp_region_any hm (xW (fun listed b w'=>∃vs,Ex ops S w.drew specs a vs listed b w') ?_ ?_ _ _ _ _ ?_ ?_)
 ·rintro listed b w1 i ⟨vs,hinv⟩ hi;have bC:i < ops.size:=by have:=(List.mem_filter.1 hi).1;simpa using this
  have ho:ops[i]? =some ops[i]:=Array.getElem?_eq_getElem bC;generalize ops[i]=o at ho;obtain⟨r1,r2⟩:=nE hi ho;obtain⟨facts,Hy,hv⟩:=(tG vs).2 i o (by rw[Ay];exact ho);have T9:i < listed.size:=by rw[hinv.size];exact bC
  have hlf:listed.getD i false=false:=by simp[T9] at r1⊢;exact r1
  have agree:∀t∈o.looksAt ops,b.tmps[t]? =(rV ops.toList specs vs a i).tmps[t]? :=by
   intro t ht;by_cases hex:∃(j:Nat) (p:Oper),ops[j]? =some p∧p.dst=some t
   ·obtain⟨j,p,hj,hp⟩:=hex;obtain⟨e,he,hb,oZ⟩:=D.ahead i o ho t ht j p hj hp;have hlj:listed.getD j false=true:=by rw[←oZ];exact r2 e he hb
    have GZ:j < i:=by rw[←oZ];exact D.back i o ho e he
    rw[hinv.done t j p hj hp hlj,N4 vs i j p t hj hp GZ]
   ·rw[hinv.todo t fun j p hj hp=>absurd ⟨j,p,hj,hp⟩ hex,Yd vs i t fun j p _ hj hp=>hex ⟨j,p,hj,hp⟩]
  have Hz:AW ops o facts w1:=AW.of fun p hp hl=>by
   rcases Hy p hp with h|⟨j,q,V,hj,e1,e2,e3,e4⟩;·simp at h
   ·rw[e4];obtain⟨e,he,hb,oZ⟩:=D.ahead i o ho p.1 hl j q (by rw[←Ay];exact e1) e3;exact hinv.known j V e2 (by rw[←oZ];exact r2 e he hb)
  have rB:b.tmps.size=(rV ops.toList specs vs a i).tmps.size:=by rw[hinv.Am,(sR vs i).1]
  have uT:∀(us:Nat→Value) w',(∀j,j≠i→us j=vs j)→S w1 w'→(∀j V,specs[j]? =some (.any V)→listed.getD j false=true→V (us j) w')→
   (∀V,specs[i]? =some (.any V)→V (us i) w')→Ex ops S w.drew specs a us (listed.setIfInBounds i true) (b.put o.dst (nS specs us i)) w':=by
   intro us w' hus CH Dq KO;have Ye:∀j,j≠i→nS specs us j=nS specs vs j:=fun j hj=>by unfold nS;rw[hus j hj]
   refine⟨by simpa using hinv.size,by rw[mW];exact hinv.defs,by rw[sQ];exact hinv.Am,hS.trans hinv.world CH,fun t j p hj hp hl=>?_,fun t wT=>?_,fun j V hj hl=>?_⟩
   ·by_cases e:j=i;·subst e;rw[ho] at hj;cases hj;rw[hp,sS,sS,hinv.Am]
    ·have eG:o.dst≠some t:=by
      by_cases GZ:j < i;·exact D.once i o j p ho hj GZ t hp
      ·exact fun e'=>D.once j p i o hj ho (by omega) t e' hp
     rw[gY _ _ eG,Ye j e];refine hinv.done t j p hj hp ?_;simpa[Ne.symm e] using hl
   ·have eG:o.dst≠some t:=fun e'=>by have:=wT i o ho e';simp[T9] at this
    rw[gY _ _ eG];refine hinv.todo t fun j p hj hp=>?_;have:=wT j p hj hp;by_cases e:j=i;·subst e;rw[ho] at hj;cases hj;exact absurd hp eG
    ·simpa[Ne.symm e] using this
   ·by_cases e:j=i;·subst e;exact KO V hj
    ·exact Dq j V hj (by simpa[Ne.symm e] using hl)
  have xX:Region.wanted o (yielded ops b.tmps)=Region.wanted o (yielded ops (rV ops.toList specs vs a i).tmps):=by
   unfold Region.wanted;cases hg:o.guard with
   |none=>rfl
   |some g=>obtain⟨j,want⟩:=g;simp only[];rw[rU (x:=b.tmps) (y:=(rV ops.toList specs vs a i).tmps) (j:=j) fun t ht=>agree t (by simp[Oper.looksAt,hg,ht])]
  have hev:execOp b.eval o=execOp (rV ops.toList specs vs a i).eval o:=by
   refine execOp_congr o (D.plain i o ho) fun x hx=>?_;cases x with
   |tmp t=>
    have:=agree t (by
     unfold Oper.looksAt;refine List.mem_append_left _ (List.mem_filterMap.2 ⟨.tmp t,by simpa using hx,rfl⟩))
    simp only[Act.eval,Array.getD_eq_getD_getElem?,this]
   |_=>rfl
  have agF:∀{w'},S w1 w'→∀j V,specs[j]? =some (.any V)→(∀v w w',V v w→S w w'→V v w')→listed.getD j false=true→V (vs j) w':=
   fun CH j V hj tG hl=>tG _ _ _ (hinv.known j V hj hl) CH
  have Yf:∀j V,specs[j]? =some (.any V)→listed.getD j false=true→∀v w w',V v w→S w w'→V v w':=by
   intro j V hj hl;have Vd:j < ops.size:=by
    by_cases Vd:j < ops.size;·exact Vd
    ·rw[Array.getD_eq_getD_getElem?,Array.getElem?_eq_none (by rw[hinv.size];omega)] at hl;simp at hl
   obtain⟨f,_,Ve⟩:=(tG vs).2 j ops[j] (by rw[Ay];exact Array.getElem?_eq_getElem Vd);rcases Ve with⟨v,e,_⟩|⟨V',t,e,_,hN⟩;·rw[hj] at e;cases e
   ·rw[hj] at e;cases e;exact hN.2.1
  have run:∀(Vw:Value→World→Prop),(∀K:Act→World→Prop,(∀u w',S w1 w'→Vw u w'→K ((rV ops.toList specs vs a i).put o.dst u) w')→o.wp P (rV ops.toList specs vs a i) w1 K (fun _ _ _=>False))→
   (∀u w',S w1 w'→Vw u w'→∃us,Ex ops S w.drew specs a us (listed.setIfInBounds i true) (b.put o.dst u) w')→
   o.wp P b w1 (fun a' w'=>∃us,Ex ops S w.drew specs a us (listed.setIfInBounds i true) a' w') (fun e a' w'=>Q e a' w'):=by
   intro Vw uU hgo;have hr:=uU (fun a' w'=>∃u,a'=(rV ops.toList specs vs a i).put o.dst u∧S w1 w'∧Vw u w') fun u w' h1 h2=>⟨u,rfl,h1,h2⟩;have fin:∀x w',(∃u,(rV ops.toList specs vs a i).put o.dst x=(rV ops.toList specs vs a i).put o.dst u∧S w1 w'∧Vw u w')→∃us,Ex ops S w.drew specs a us (listed.setIfInBounds i true) (b.put o.dst x) w':=by rintro x w' ⟨u,e,h1,h2⟩;rw[rT e rB];exact hgo u w' h1 h2
   unfold Oper.wp at hr⊢;rw[hev];generalize (execOp (rV ops.toList specs vs a i).eval o).run P w1=res at hr;cases res with
   |ok nx w'=>
    cases nx with
    |value u=>simp only[Oper.upon] at hr⊢;exact fin _ _ hr
    |skip=>simp only[Oper.upon] at hr⊢;exact fin _ _ hr
    |enter f args=>
     simp only[Oper.upon] at hr⊢;refine Calls.mono hr fun e yS he=>?_;cases e with
     |returned u=>simp only[] at he⊢;exact fin _ _ he
     |panicked ch=>exact absurd he (by simp)
     |outgrown=>simp only[] at he;obtain⟨_,_,hh⟩:=he;exact absurd hh (by simp)
    |row rw' args=>simp only[Oper.upon] at hr⊢;refine Rows.mono hr fun u yS he=>?_;exact fin _ _ he
    |_=>first|(simp only[Oper.upon] at hr;done)|(simp only[Oper.upon] at hr;obtain⟨u,hr,_⟩:=hr;have:=congrArg (fun x:Act=>x.defers) hr;simp[mW] at this)
   |halt x w'=>cases x<;>simp only[Oper.upon] at hr
  unfold wpOp;rw[ho];simp only[];rcases hv with⟨v,G0,hN⟩|⟨V,t,G0,ht,hw,ajN,uU⟩
  ·have mC:∀us,nS specs us i=v:=fun us=>by unfold nS;rw[G0]
   rcases hN with⟨hw,hvu⟩|⟨hw,uU⟩;·rw[xX,hw];subst hvu;refine⟨vs,?_⟩;have:=uT vs w1 (fun _ _=>rfl) (hS.refl _) (fun j V hj hl=>hinv.known j V hj hl) (fun V hV=>by rw[G0] at hV;cases hV);rw[mC] at this;exact this
   ·rw[xX,hw];simp only[if_true];left;refine run (fun u _=>u=v) (fun K hK=>uU w1 hinv.world Hz K fun w' CH=>hK v w' CH rfl) ?_;rintro u w' CH rfl;refine⟨vs,?_⟩;have:=uT vs w' (fun _ _=>rfl) CH (fun j V hj hl=>Yf j V hj hl _ _ _ (hinv.known j V hj hl) CH) (fun V hV=>by rw[G0] at hV;cases hV);rw[mC] at this;exact this
  ·rw[xX,hw];simp only[if_true];left;refine run V (fun K hK=>uU w1 hinv.world Hz K fun u w' CH hV=>hK u w' CH hV) ?_;intro u w' CH hVu;refine⟨fun j=>if j=i then u else vs j,?_⟩;have mC:nS specs (fun j=>if j=i then u else vs j) i=u:=by unfold nS;rw[G0];simp
   have:=uT (fun j=>if j=i then u else vs j) w' (fun j hj=>by simp[hj]) CH
    (fun j V' hj hl=>by
      have GZ:j≠i:=fun e=>by rw[e,hlf] at hl;cases hl
      simp only[GZ,if_false]
      exact Yf j V' hj hl _ _ _ (hinv.known j V' hj hl) CH)
    (fun V' hV'=>by rw[G0] at hV';cases hV';simpa using hVu)
   rw[mC] at this;exact this
 ·rintro listed b w1 ⟨vs,hinv⟩ hr;have iJ:∀i:Nat,i < ops.size→listed.getD i false=true:=by
   intro i;induction i using Nat.strongRecOn with
   |_ i ih=>
    intro bC;cases hc:listed.getD i false with
    |true=>rfl
    |false=>
     exfalso;have ho:ops[i]? =some ops[i]:=Array.getElem?_eq_getElem bC;have hx:i < listed.size:=by rw[hinv.size];exact bC
     have Ew:i∈Region.ready .any ops listed:=by unfold Region.ready;rw[List.mem_filter];refine⟨by simpa using bC,?_⟩;simp only[Bool.and_eq_true,ho,Option.map_some,Option.getD_some,Array.all_eq_true_iff_forall_mem,Bool.or_eq_true];refine⟨?_,fun e he=> .inr (ih e.on (D.back i _ ho e he) (by have:=D.back i _ ho e he;omega))⟩;simp[hx] at hc⊢;exact hc
     rw[hr] at Ew;simp at Ew
  have hb:b=rV ops.toList specs vs a ops.size:=by
   have ht:b.tmps=(rV ops.toList specs vs a ops.size).tmps:=by
    apply Array.ext_getElem?;intro t;by_cases hex:∃(j:Nat) (p:Oper),ops[j]? =some p∧p.dst=some t;·obtain⟨j,p,hj,hp⟩:=hex;have Vd:=(Array.getElem?_eq_some_iff.1 hj).1;rw[hinv.done t j p hj hp (iJ j Vd),N4 vs ops.size j p t hj hp Vd]
    ·rw[hinv.todo t fun j p hj hp=>absurd ⟨j,p,hj,hp⟩ hex,Yd vs ops.size t fun j p _ hj hp=>hex ⟨j,p,hj,hp⟩]
   have hd:b.defers=(rV ops.toList specs vs a ops.size).defers:=by rw[hinv.defs,(sR vs _).2]
   cases b;cases tG:rV ops.toList specs vs a ops.size;rw[tG] at ht hd;simp only at ht hd;rw[ht,hd]
  obtain⟨facts,Hy,hF⟩:=(tG vs).1;rw[hb];refine hF w1 hinv.world (AX.of fun p hp=>?_);rcases Hy p hp with h|⟨j,q,V,hj,e1,e2,e3,e4⟩;·simp at h
  ·rw[e4];exact hinv.known j V e2 (iJ j hj)
 ·have:=List.countP_le_length (p:=fun i=> !(Array.replicate ops.size false).getD i true) (l:=List.range ops.size);simpa using this
 ·refine⟨fun _=>undef,by simp,rfl,rfl,hS.refl _,fun t i o ho _ hl=>?_,fun t _=>rfl,fun i V _ hl=>?_⟩;·have hi:i < ops.size:=(Array.getElem?_eq_some_iff.1 ho).1;simp[hi] at hl
  ·by_cases hi:i < ops.size;·simp[hi] at hl
   ·simp[hi] at hl
def fX (w w':World):Prop:=Below w.heap.size w w'
theorem mL:N3 fX:=⟨fun w=>Below.refl _ w,fun h k=>h.trans (k.mono h.size)⟩
def H7 (ops:Array Oper) (n:Nat):Bool:=
 (List.range ops.size).all fun i=>match ops[i]? with
   |none=>true
   |some o=>(o.after.all fun e=> !Region.binds .any e||decide (e.on < i))&&(match o.op with| .select .. =>false|_=>true)&&
     ((o.looksAt ops).all fun t=>(List.range n).all fun j=>match ops[j]? with
       |some p=>if p.dst==some t then o.after.any (fun e=>Region.binds .any e&&e.on==j) else true
       |none=>true)&&
     (List.range i).all fun j=>match ops[j]? with
       |some p=>p.dst.isNone||p.dst !=o.dst
       |none=>true
structure Mh (ops:Array Oper) (n:Nat):Prop where
 back:∀(i:Nat) (o:Oper),ops[i]? =some o→∀e∈o.after,Region.binds .any e=true→e.on < i
 plain:∀(i:Nat) (o:Oper),ops[i]? =some o→∀cs b,o.op≠ .select cs b
 ahead:∀(i:Nat) (o:Oper),ops[i]? =some o→∀t∈o.looksAt ops,∀(j:Nat) (p:Oper),j < n→ops[j]? =some p→p.dst=some t→∃e∈o.after,Region.binds .any e=true∧e.on=j
 once:∀(i:Nat) (o:Oper) (j:Nat) (p:Oper),ops[i]? =some o→ops[j]? =some p→j < i→∀t,p.dst=some t→o.dst≠some t
theorem Mh.of {ops:Array Oper} {n:Nat} (h:H7 ops n=true):Mh ops n:=by
 have key:∀(i:Nat) (o:Oper),ops[i]? =some o→(∀e∈o.after,Region.binds .any e=true→e.on < i)∧(∀cs b,o.op≠ .select cs b)∧
  (∀t∈o.looksAt ops,∀(j:Nat) (p:Oper),j < n→ops[j]? =some p→p.dst=some t→∃e∈o.after,Region.binds .any e=true∧e.on=j)∧
  (∀(j:Nat) (p:Oper),ops[j]? =some p→j < i→∀t,p.dst=some t→o.dst≠some t):=by
  intro i o ho;have hi:i < ops.size:=(Array.getElem?_eq_some_iff.1 ho).1;unfold H7 at h;rw[List.all_eq_true] at h;have h1:=h i (by simpa using hi);simp only[ho,Bool.and_eq_true] at h1;obtain⟨⟨⟨h2,h3⟩,h4⟩,h5⟩:=h1;refine⟨fun e he hbb=>?_,fun cs b hs=>?_,fun t ht j p Rm hj hp=>?_,fun j p hj bC t hp ho'=>?_⟩;·rw[Array.all_eq_true_iff_forall_mem] at h2;have h9:=h2 e he;rw[hbb] at h9;simpa using h9
  ·rw[hs] at h3;simp at h3
  ·rw[List.all_eq_true] at h4;have h6:=h4 t ht;rw[List.all_eq_true] at h6;have h7:=h6 j (by simpa using Rm);simp only[hj,hp,beq_self_eq_true,if_true,Array.any_eq_true'] at h7;obtain⟨e,he,hb⟩:=h7;simp only[Bool.and_eq_true,beq_iff_eq] at hb;exact⟨e,he,hb.1,hb.2⟩
  ·rw[List.all_eq_true] at h5;have h6:=h5 j (by simpa using bC);simp[hj,hp,ho'] at h6
 exact⟨fun i o ho=>(key i o ho).1,fun i o ho=>(key i o ho).2.1,fun i o ho=>(key i o ho).2.2.1,fun i o j p ho hj bC=>(key i o ho).2.2.2 j p hj bC⟩
def Mi (ops:Array Oper) (n:Nat):Bool:=
 (List.range n).all fun i=>(List.range (n+1)).any fun j=>decide (i < j)&&(match ops[j]? with
   |some p=>p.after.any fun e=>Region.binds .any e&&e.on==i
   |none=>false)
def wZ (ops:Array Oper) (listed:Array Bool):Prop:=∀(i:Nat) (o:Oper),ops[i]? =some o→listed.getD i false=true→∀e∈o.after,Region.binds .any e=true→listed.getD e.on false=true
theorem wZ.none (ops:Array Oper):wZ ops (Array.replicate ops.size false):=by intro i o ho hl;have hi:i < ops.size:=(Array.getElem?_eq_some_iff.1 ho).1;simp[hi] at hl
theorem wZ.step {ops:Array Oper} {listed:Array Bool} (h:wZ ops listed) {i:Nat} {o:Oper} (ho:ops[i]? =some o) (hr:∀e∈o.after,Region.binds .any e=true→listed.getD e.on false=true) (hi:i < listed.size):wZ ops (listed.setIfInBounds i true):=by
 have key:∀j,listed.getD j false=true→(listed.setIfInBounds i true).getD j false=true:=by
  intro j hj;by_cases e:j=i;·subst e;simp[hi]
  ·simpa[Ne.symm e] using hj
 intro j p hp hl e he hb;by_cases GZ:j=i;·subst GZ;rw[ho] at hp;cases hp;exact key _ (hr e he hb)
 ·exact key _ (h j p hp (by simpa[Ne.symm GZ] using hl) e he hb)
theorem Rn {ops:Array Oper} {n:Nat} (h:Mi ops n=true) {listed:Array Bool} (hc:wZ ops listed) {st:Oper} (hs:ops[n]? =some st) (hr:∀e∈st.after,Region.binds .any e=true→listed.getD e.on false=true):∀i,i < n→listed.getD i false=true:=by
 have key:∀m i,n - i≤m→i < n→listed.getD i false=true:=by
  intro m;induction m with
  |zero=>intro i hm hi;omega
  |succ m ih=>
   intro i hm hi;unfold Mi at h;rw[List.all_eq_true] at h;have h1:=h i (by simpa using hi);rw[List.any_eq_true] at h1;obtain⟨j,hj,h2⟩:=h1;rw[Bool.and_eq_true] at h2;obtain⟨h3,h4⟩:=h2;have hij:i < j:=by simpa using h3
   cases hp:ops[j]? with
   |none=>rw[hp] at h4;cases h4
   |some p=>
    rw[hp] at h4;simp only[Array.any_eq_true'] at h4;obtain⟨e,he,hb⟩:=h4;simp only[Bool.and_eq_true,beq_iff_eq] at hb;obtain⟨eN,dE⟩:=hb;have Vd:j < n+1:=by simpa using hj
    by_cases Rm:j=n;·subst Rm;rw[hs] at hp;cases hp;rw[←dE];exact hr e he eN
    ·rw[←dE];exact hc j p hp (ih j (by omega) (by omega)) e he eN
 exact fun i hi=>key (n - i) i (Nat.le_refl _) hi
def H9 (ops:Array Oper) (n:Nat):Bool:=
 (List.range ops.size).all fun j=>(List.range j).all fun i=>decide (i < n)||(match ops[j]? with
   |some p=>p.after.any fun e=>Region.binds .any e&&e.on==i
   |none=>true)
theorem KW {ops:Array Oper} {n:Nat} (h:H9 ops n=true) {i j:Nat} {p:Oper} (hp:ops[j]? =some p) (hij:i < j) (hn:n≤i):∃e∈p.after,Region.binds .any e=true∧e.on=i:=by
 unfold H9 at h;rw[List.all_eq_true] at h;have h1:=h j (by simpa using (Array.getElem?_eq_some_iff.1 hp).1);rw[List.all_eq_true] at h1;have h2:=h1 i (by simpa using hij);rw[hp] at h2;simp only[Bool.or_eq_true,decide_eq_true_eq,Array.any_eq_true'] at h2;rcases h2 with h2|⟨e,he,hb⟩;·omega
 ·simp only[Bool.and_eq_true,beq_iff_eq] at hb;exact⟨e,he,hb.1,hb.2⟩
theorem AY {P:Program} {ops:Array Oper} {Q:Exit→Act→World→Prop} {id:Nat} {a:Act} {w:World} (S:World→World→Prop) (specs:List Spec) (n:Nat) (st:Oper) (Vf:ops[n]? =some st) (hm:P.follows .mixedOrders=true) (qJ:H7 ops n=true) (AZ:Mi ops n=true) (Uc:H9 ops n=true) (hS:N3 S)
 (h:aS P ops S w.drew (fun facts aF=>∀w',S w.drew w'→AX facts w'→wpList P ops Q (ops.toList.drop n) aF w') (ops.toList.take n) specs [] a):(Code.region id ops true).wp P Q a w:=by
 have D:=Mh.of qJ;have hns:n < ops.size:=(Array.getElem?_eq_some_iff.1 Vf).1;obtain⟨L,hLd⟩:∃L,L=ops.toList.take n:=⟨_,rfl⟩;rw[←hLd] at h;have hn:L.length=n:=by rw[hLd];simp;omega
 have tG:=aS.wY _ _ _ _ h;rw[hn] at tG;have hL:∀(k:Nat) (o:Oper),L[k]? =some o→k < n∧ops[k]? =some o:=by
  intro k o hk;have Eb:k < n:=by have:=(List.getElem?_eq_some_iff.1 hk).1;omega
  rw[hLd,List.getElem?_take_of_lt Eb] at hk;exact⟨Eb,by simpa using hk⟩
 have hL':∀(k:Nat) (o:Oper),k < n→ops[k]? =some o→L[k]? =some o:=by intro k o Eb hk;rw[hLd,List.getElem?_take_of_lt Eb];simpa using hk
 have sR:∀vs k,(rV L specs vs a k).tmps.size=a.tmps.size∧(rV L specs vs a k).defers=a.defers:=by
  intro vs k;induction k with
  |zero=>exact⟨rfl,rfl⟩
  |succ k ih=>
   rw[rV];cases L[k]? with
   |none=>exact ih
   |some o=>simp only[sQ,mW];exact ih
 have Yd:∀vs k,∀t:Tmp,(∀(j:Nat) (o:Oper),j < k→ops[j]? =some o→o.dst≠some t)→(rV L specs vs a k).tmps[t]? =a.tmps[t]? :=by
  intro vs k;induction k with
  |zero=>intro t _;rfl
  |succ k ih=>
   intro t wT;rw[rV];cases ho:L[k]? with
   |none=>exact ih t fun j o hj=>wT j o (by omega)
   |some o=>simp only[];rw[gY _ _ (wT k o (by omega) (hL k o ho).2)];exact ih t fun j o hj=>wT j o (by omega)
 have N4:∀vs k (i:Nat) (o:Oper) (t:Tmp),ops[i]? =some o→o.dst=some t→i < k→i < n→(rV L specs vs a k).tmps[t]? =(a.put (some t) (nS specs vs i)).tmps[t]? :=by
  intro vs k;induction k with
  |zero=>intro i o t _ _ hk;omega
  |succ k ih=>
   intro i o t ho ht hk GX;rw[rV];by_cases e:k=i;·subst e;rw[hL' k o GX ho];simp only[ht];rw[sS,sS,(sR vs k).1]
   ·cases hq:L[k]? with
    |none=>exact ih i o t ho ht (by omega) GX
    |some q=>simp only[];rw[gY _ _ (D.once k q i o (hL k q hq).2 ho (by omega) t ht)];exact ih i o t ho ht (by omega) GX
 have ajO:∀(listed:Array Bool) (b:Act) (w1:World) (vs:Nat→Value),Ex ops S w.drew specs a vs listed b w1→(∀j,n≤j→listed.getD j false=false)→(∀i,i < n→listed.getD i false=true)→wpList P ops Q (ops.toList.drop n) b w1:=by
  intro listed b w1 vs hinv Ec iJ;have hb:b=rV L specs vs a n:=by
   have ht:b.tmps=(rV L specs vs a n).tmps:=by
    apply Array.ext_getElem?;intro t;by_cases hex:∃(j:Nat) (p:Oper),j < n∧ops[j]? =some p∧p.dst=some t;·obtain⟨j,p,Rm,hj,hp⟩:=hex;rw[hinv.done t j p hj hp (iJ j Rm),N4 vs n j p t hj hp Rm Rm]
    ·rw[hinv.todo t fun j p hj hp=>?_,Yd vs n t fun j p Rm hj hp=>hex ⟨j,p,Rm,hj,hp⟩];by_cases Rm:j < n;·exact absurd ⟨j,p,Rm,hj,hp⟩ hex
     ·exact Ec j (by omega)
   have hd:b.defers=(rV L specs vs a n).defers:=by rw[hinv.defs,(sR vs _).2]
   cases b;cases amS:rV L specs vs a n;rw[amS] at ht hd;simp only at ht hd;rw[ht,hd]
  obtain⟨facts,Hy,hF⟩:=(tG vs).1;rw[hb];have hA:AX facts w1:=AX.of fun p hp=>by
   rcases Hy p hp with h|⟨j,q,V,hj,e1,e2,e3,e4⟩;·simp at h
   ·rw[e4];exact hinv.known j V e2 (iJ j hj)
  exact hF w1 hinv.world hA
 obtain⟨J,hJ⟩:∃J:Array Bool→Act→World→Prop,J=fun listed b w'=>∃m,n≤m∧m≤ops.size∧listed.size=ops.size∧(∀i,i < m→listed.getD i false=true)∧(∀i,m≤i→listed.getD i false=false)∧wpList P ops Q (ops.toList.drop m) b w':=⟨_,rfl⟩;have Hv:∀listed b w1 i,J listed b w1→i∈Region.ready .any ops listed→wpOp P ops Q i (fun b' w'=>J (listed.setIfInBounds i true) b' w') b w1:=by
  intro listed b w1 i hj hi;rw[hJ] at hj;obtain⟨m,hnm,hms,iV,hup,Ud,Ia⟩:=hj;have bC:i < ops.size:=by have:=(List.mem_filter.1 hi).1;simpa using this
  have ho:ops[i]? =some ops[i]:=Array.getElem?_eq_getElem bC;generalize ops[i]=o at ho;obtain⟨r1,r2⟩:=nE hi ho;have hx:i < listed.size:=by omega
  have hlf:listed.getD i false=false:=by simp[hx] at r1⊢;exact r1
  have him:i=m:=by
   rcases Nat.lt_trichotomy i m with h|h|h;·rw[hup i h] at hlf;cases hlf
   ·exact h
   ·obtain⟨e,he,eN,oZ⟩:=KW Uc ho h hnm;have:=r2 e he eN;rw[oZ,Ud m (Nat.le_refl _)] at this;cases this
  subst him;have hdr:ops.toList.drop i=o::ops.toList.drop (i+1):=by rw[List.drop_eq_getElem_cons (by simpa using bC)];congr 1;have:=(Array.getElem?_eq_some_iff.1 ho).2;simpa using this
  have afE:∀b' w',wpList P ops Q (ops.toList.drop (i+1)) b' w'→J (listed.setIfInBounds i true) b' w':=by
   intro b' w' h;rw[hJ];refine⟨i+1,by omega,by omega,by simpa using iV,fun j hj=>?_,fun j hj=>?_,h⟩
   ·by_cases GZ:j=i;·subst GZ;simp[hx]
    ·have:=hup j (by omega);simpa[Ne.symm GZ] using this
   ·have:=Ud j (by omega);simpa[show i≠j by omega] using this
  rw[hdr] at Ia;unfold wpList at Ia;unfold wpOp;rw[ho];simp only[];split;·rename_i hwn;rw[if_pos hwn] at Ia;exact Ia.imp (Oper.wp_mono afE) (fun x=>x)
  ·rename_i hwn;rw[if_neg hwn] at Ia;exact afE _ _ Ia
 refine wp_region_any hm (xW (fun listed b w'=>((∀j,n≤j→listed.getD j false=false)∧wZ ops listed∧∃vs,Ex ops S w.drew specs a vs listed b w')∨J listed b w') ?_ ?_ _ _ _ _ ?_ ?_)
 ·rintro listed b w1 i (⟨Ec,ajP,vs,hinv⟩|hj) hi;rotate_left;·exact wpOp_mono (fun _ _ h=> .inr h) (Hv listed b w1 i hj hi)
  have bC:i < ops.size:=by have:=(List.mem_filter.1 hi).1;simpa using this
  have ho:ops[i]? =some ops[i]:=Array.getElem?_eq_getElem bC;generalize ops[i]=o at ho;obtain⟨r1,r2⟩:=nE hi ho;have ajQ:wZ ops (listed.setIfInBounds i true):=ajP.step ho r2 (by rw[hinv.size];exact bC);by_cases GX:n≤i
  ·have amT:i=n:=by
    rcases Nat.lt_or_ge n i with h|h;·obtain⟨e,he,eN,oZ⟩:=KW Uc ho h (Nat.le_refl _);have:=r2 e he eN;rw[oZ,Ec n (Nat.le_refl _)] at this;cases this
    ·omega
   subst amT;rw[Vf] at ho;cases ho;have iJ:∀j,j < i→listed.getD j false=true:=Rn AZ ajP Vf r2;have hj:J listed b w1:=by rw[hJ];exact⟨i,Nat.le_refl _,Nat.le_of_lt bC,hinv.size,iJ,Ec,ajO listed b w1 vs hinv Ec iJ⟩
   exact wpOp_mono (fun _ _ h=> .inr h) (Hv listed b w1 i hj hi)
  have amU:i < n:=by omega
  have goLeft:∀b' w',(∃us,Ex ops S w.drew specs a us (listed.setIfInBounds i true) b' w')→((∀j,n≤j→(listed.setIfInBounds i true).getD j false=false)∧wZ ops (listed.setIfInBounds i true)∧∃us,Ex ops S w.drew specs a us (listed.setIfInBounds i true) b' w')∨J (listed.setIfInBounds i true) b' w':=
   fun b' w' hx=> .inl ⟨fun j hj=>by have:=Ec j hj;simpa[show i≠j by omega] using this,ajQ,hx⟩
  obtain⟨facts,Hy,hv⟩:=(tG vs).2 i o (hL' i o amU ho);have T9:i < listed.size:=by rw[hinv.size];exact bC
  have hlf:listed.getD i false=false:=by simp[T9] at r1⊢;exact r1
  have agree:∀t∈o.looksAt ops,b.tmps[t]? =(rV L specs vs a i).tmps[t]? :=by
   intro t ht;by_cases hex:∃(j:Nat) (p:Oper),j < n∧ops[j]? =some p∧p.dst=some t
   ·obtain⟨j,p,Rm,hj,hp⟩:=hex;obtain⟨e,he,hb,oZ⟩:=D.ahead i o ho t ht j p Rm hj hp;have hlj:listed.getD j false=true:=by rw[←oZ];exact r2 e he hb
    have GZ:j < i:=by rw[←oZ];exact D.back i o ho e he hb
    rw[hinv.done t j p hj hp hlj,N4 vs i j p t hj hp GZ (by omega)]
   ·rw[hinv.todo t fun j p hj hp=>(Nat.lt_or_ge j n).elim (fun h=>absurd ⟨j,p,h,hj,hp⟩ hex) (Ec j),Yd vs i t fun j p GZ hj hp=>hex ⟨j,p,by omega,hj,hp⟩]
  have Hz:AW ops o facts w1:=AW.of fun p hp hl=>by
   rcases Hy p hp with h|⟨j,q,V,hj,e1,e2,e3,e4⟩;·simp at h
   ·rw[e4];obtain⟨e,he,hb,oZ⟩:=D.ahead i o ho p.1 hl j q (hL j q e1).1 (hL j q e1).2 e3;exact hinv.known j V e2 (by rw[←oZ];exact r2 e he hb)
  have rB:b.tmps.size=(rV L specs vs a i).tmps.size:=by rw[hinv.Am,(sR vs i).1]
  have uT:∀(us:Nat→Value) w',(∀j,j≠i→us j=vs j)→S w1 w'→(∀j V,specs[j]? =some (.any V)→listed.getD j false=true→V (us j) w')→
   (∀V,specs[i]? =some (.any V)→V (us i) w')→Ex ops S w.drew specs a us (listed.setIfInBounds i true) (b.put o.dst (nS specs us i)) w':=by
   intro us w' hus CH Dq KO;have Ye:∀j,j≠i→nS specs us j=nS specs vs j:=fun j hj=>by unfold nS;rw[hus j hj]
   refine⟨by simpa using hinv.size,by rw[mW];exact hinv.defs,by rw[sQ];exact hinv.Am,hS.trans hinv.world CH,fun t j p hj hp hl=>?_,fun t wT=>?_,fun j V hj hl=>?_⟩
   ·by_cases e:j=i;·subst e;rw[ho] at hj;cases hj;rw[hp,sS,sS,hinv.Am]
    ·have eG:o.dst≠some t:=by
      by_cases GZ:j < i;·exact D.once i o j p ho hj GZ t hp
      ·exact fun e'=>D.once j p i o hj ho (by omega) t e' hp
     rw[gY _ _ eG,Ye j e];refine hinv.done t j p hj hp ?_;simpa[Ne.symm e] using hl
   ·have eG:o.dst≠some t:=fun e'=>by have:=wT i o ho e';simp[T9] at this
    rw[gY _ _ eG];refine hinv.todo t fun j p hj hp=>?_;have:=wT j p hj hp;by_cases e:j=i;·subst e;rw[ho] at hj;cases hj;exact absurd hp eG
    ·simpa[Ne.symm e] using this
   ·by_cases e:j=i;·subst e;exact KO V hj
    ·exact Dq j V hj (by simpa[Ne.symm e] using hl)
  have xX:Region.wanted o (yielded ops b.tmps)=Region.wanted o (yielded ops (rV L specs vs a i).tmps):=by
   unfold Region.wanted;cases hg:o.guard with
   |none=>rfl
   |some g=>obtain⟨j,want⟩:=g;simp only[];rw[rU (x:=b.tmps) (y:=(rV L specs vs a i).tmps) (j:=j) fun t ht=>agree t (by simp[Oper.looksAt,hg,ht])]
  have hev:execOp b.eval o=execOp (rV L specs vs a i).eval o:=by
   refine execOp_congr o (D.plain i o ho) fun x hx=>?_;cases x with
   |tmp t=>
    have:=agree t (by
     unfold Oper.looksAt;refine List.mem_append_left _ (List.mem_filterMap.2 ⟨.tmp t,by simpa using hx,rfl⟩))
    simp only[Act.eval,Array.getD_eq_getD_getElem?,this]
   |_=>rfl
  have agF:∀{w'},S w1 w'→∀j V,specs[j]? =some (.any V)→(∀v w w',V v w→S w w'→V v w')→listed.getD j false=true→V (vs j) w':=
   fun CH j V hj tG hl=>tG _ _ _ (hinv.known j V hj hl) CH
  have Yf:∀j V,specs[j]? =some (.any V)→listed.getD j false=true→∀v w w',V v w→S w w'→V v w':=by
   intro j V hj hl;have Vd:j < ops.size:=by
    by_cases Vd:j < ops.size;·exact Vd
    ·rw[Array.getD_eq_getD_getElem?,Array.getElem?_eq_none (by rw[hinv.size];omega)] at hl;simp at hl
   have Rm:j < n:=by
    rcases Nat.lt_or_ge j n with h|h;·exact h
    ·rw[Ec j h] at hl;cases hl
   obtain⟨f,_,Ve⟩:=(tG vs).2 j ops[j] (hL' j _ Rm (Array.getElem?_eq_getElem Vd));rcases Ve with⟨v,e,_⟩|⟨V',t,e,_,hN⟩;·rw[hj] at e;cases e
   ·rw[hj] at e;cases e;exact hN.2.1
  have run:∀(Vw:Value→World→Prop),(∀K:Act→World→Prop,(∀u w',S w1 w'→Vw u w'→K ((rV L specs vs a i).put o.dst u) w')→o.wp P (rV L specs vs a i) w1 K (fun _ _ _=>False))→
   (∀u w',S w1 w'→Vw u w'→∃us,Ex ops S w.drew specs a us (listed.setIfInBounds i true) (b.put o.dst u) w')→
   o.wp P b w1 (fun a' w'=>∃us,Ex ops S w.drew specs a us (listed.setIfInBounds i true) a' w') (fun e a' w'=>Q e a' w'):=by
   intro Vw uU hgo;have hr:=uU (fun a' w'=>∃u,a'=(rV L specs vs a i).put o.dst u∧S w1 w'∧Vw u w') fun u w' h1 h2=>⟨u,rfl,h1,h2⟩;have fin:∀x w',(∃u,(rV L specs vs a i).put o.dst x=(rV L specs vs a i).put o.dst u∧S w1 w'∧Vw u w')→∃us,Ex ops S w.drew specs a us (listed.setIfInBounds i true) (b.put o.dst x) w':=by rintro x w' ⟨u,e,h1,h2⟩;rw[rT e rB];exact hgo u w' h1 h2
   unfold Oper.wp at hr⊢;rw[hev];generalize (execOp (rV L specs vs a i).eval o).run P w1=res at hr;cases res with
   |ok nx w'=>
    cases nx with
    |value u=>simp only[Oper.upon] at hr⊢;exact fin _ _ hr
    |skip=>simp only[Oper.upon] at hr⊢;exact fin _ _ hr
    |enter f args=>
     simp only[Oper.upon] at hr⊢;refine Calls.mono hr fun e yS he=>?_;cases e with
     |returned u=>simp only[] at he⊢;exact fin _ _ he
     |panicked ch=>exact absurd he (by simp)
     |outgrown=>simp only[] at he;obtain⟨_,_,hh⟩:=he;exact absurd hh (by simp)
    |row rw' args=>simp only[Oper.upon] at hr⊢;refine Rows.mono hr fun u yS he=>?_;exact fin _ _ he
    |_=>first|(simp only[Oper.upon] at hr;done)|(simp only[Oper.upon] at hr;obtain⟨u,hr,_⟩:=hr;have:=congrArg (fun x:Act=>x.defers) hr;simp[mW] at this)
   |halt x w'=>cases x<;>simp only[Oper.upon] at hr
  refine wpOp_mono goLeft ?_;unfold wpOp;rw[ho];simp only[];rcases hv with⟨v,G0,hN⟩|⟨V,t,G0,ht,hw,ajN,uU⟩
  ·have mC:∀us,nS specs us i=v:=fun us=>by unfold nS;rw[G0]
   rcases hN with⟨hw,hvu⟩|⟨hw,uU⟩;·rw[xX,hw];subst hvu;refine⟨vs,?_⟩;have:=uT vs w1 (fun _ _=>rfl) (hS.refl _) (fun j V hj hl=>hinv.known j V hj hl) (fun V hV=>by rw[G0] at hV;cases hV);rw[mC] at this;exact this
   ·rw[xX,hw];simp only[if_true];left;refine run (fun u _=>u=v) (fun K hK=>uU w1 hinv.world Hz K fun w' CH=>hK v w' CH rfl) ?_;rintro u w' CH rfl;refine⟨vs,?_⟩;have:=uT vs w' (fun _ _=>rfl) CH (fun j V hj hl=>Yf j V hj hl _ _ _ (hinv.known j V hj hl) CH) (fun V hV=>by rw[G0] at hV;cases hV);rw[mC] at this;exact this
  ·rw[xX,hw];simp only[if_true];left;refine run V (fun K hK=>uU w1 hinv.world Hz K fun u w' CH hV=>hK u w' CH hV) ?_;intro u w' CH hVu;refine⟨fun j=>if j=i then u else vs j,?_⟩;have mC:nS specs (fun j=>if j=i then u else vs j) i=u:=by unfold nS;rw[G0];simp
   have:=uT (fun j=>if j=i then u else vs j) w' (fun j hj=>by simp[hj]) CH
    (fun j V' hj hl=>by
      have GZ:j≠i:=fun e=>by rw[e,hlf] at hl;cases hl
      simp only[GZ,if_false]
      exact Yf j V' hj hl _ _ _ (hinv.known j V' hj hl) CH)
    (fun V' hV'=>by rw[G0] at hV';cases hV';simpa using hVu)
   rw[mC] at this;exact this
 ·rintro listed b w1 ajR hr;have iV:listed.size=ops.size:=by
   rcases ajR with⟨_,_,vs,hinv⟩|h;·exact hinv.size
   ·rw[hJ] at h;obtain⟨m,_,_,h,_⟩:=h;exact h
  have iJ:∀i:Nat,i < ops.size→listed.getD i false=true:=by
   intro i;induction i using Nat.strongRecOn with
   |_ i ih=>
    intro bC;cases hc:listed.getD i false with
    |true=>rfl
    |false=>
     exfalso;have ho:ops[i]? =some ops[i]:=Array.getElem?_eq_getElem bC;have hx:i < listed.size:=by rw[iV];exact bC
     have Ew:i∈Region.ready .any ops listed:=by
      unfold Region.ready;rw[List.mem_filter];refine⟨by simpa using bC,?_⟩;simp only[Bool.and_eq_true,ho,Option.map_some,Option.getD_some,Array.all_eq_true_iff_forall_mem,Bool.or_eq_true];refine⟨?_,fun e he=>?_⟩;rotate_left
      ·by_cases hbi:Region.binds .any e=true;·exact .inr (ih e.on (D.back i _ ho e he hbi) (by have:=D.back i _ ho e he hbi;omega))
       ·left;simpa using hbi
      simp[hx] at hc⊢;exact hc
     rw[hr] at Ew;simp at Ew
  rcases ajR with⟨Ec,_,_⟩|h;·have:=Ec n (Nat.le_refl _);rw[iJ n hns] at this;cases this
  ·rw[hJ] at h;obtain⟨m,_,hms,_,_,Ud,Ia⟩:=h;have Ro:m=ops.size:=by
    rcases Nat.lt_or_ge m ops.size with h|h;·have:=Ud m (Nat.le_refl _);rw[iJ m h] at this;cases this
    ·omega
   rw[Ro,List.drop_of_length_le (by simp)] at Ia;unfold wpList at Ia;exact Ia
 ·have:=List.countP_le_length (p:=fun i=> !(Array.replicate ops.size false).getD i true) (l:=List.range ops.size);simpa using this
 ·refine .inl ⟨fun j _=>(by by_cases hx:j < ops.size<;>simp[hx]),wZ.none ops,fun _=>undef,by simp,rfl,rfl,hS.refl _,fun t i o ho _ hl=>?_,fun t _=>rfl,fun i V _ hl=>?_⟩;·have hi:i < ops.size:=(Array.getElem?_eq_some_iff.1 ho).1;simp[hi] at hl
  ·by_cases hi:i < ops.size;·simp[hi] at hl
   ·simp[hi] at hl
theorem kG {P:Program} {ops:Array Oper} {Q:Exit→Act→World→Prop} {id:Nat} {a:Act} {w:World} (S:World→World→Prop) (specs:List Spec) (n:Nat) (st:Oper) (hn1:ops.size=n+1) (Vf:ops[n]? =some st) (amV:st.guard=none) (hm:P.follows .mixedOrders=true) (qJ:H7 ops n=true) (AZ:Mi ops n=true) (hS:N3 S)
 (h:aS P ops S w.drew (fun facts aF=>∀w',S w.drew w'→AX facts w'→st.wp P aF w' (fun a'' yS=>Q .normal a'' yS) (fun e a'' yS=>Q e a'' yS)) (ops.toList.take n) specs [] a):(Code.region id ops true).wp P Q a w:=by
 have Uc:H9 ops n=true:=by
  unfold H9;rw[List.all_eq_true];intro j hj;rw[List.all_eq_true];intro i hi;have h1:j < ops.size:=by simpa using hj
  have h2:i < j:=by simpa using hi
  have h3:i < n:=by omega
  simp[h3]
 refine AY S specs n st Vf hm qJ AZ Uc hS ?_;have hdr:ops.toList.drop n=[st]:=by
  have bC:n < ops.size:=by omega
  rw[List.drop_eq_getElem_cons (by simpa using bC),List.drop_of_length_le (by simp;omega)];congr 1;have:=(Array.getElem?_eq_some_iff.1 Vf).2;simpa using this
 rw[hdr];have key:∀(L:List Oper) (s:List Spec) (facts:List (Tmp×(World→Prop))) (b:Act),aS P ops S w.drew (fun facts aF=>∀w',S w.drew w'→AX facts w'→st.wp P aF w' (fun a'' yS=>Q .normal a'' yS) (fun e a'' yS=>Q e a'' yS)) L s facts b→aS P ops S w.drew (fun facts aF=>∀w',S w.drew w'→AX facts w'→wpList P ops Q [st] aF w') L s facts b:=by
  intro L;induction L with
  |nil=>
   intro s facts b hh;cases s with
   |nil=>intro w' h1 h2;unfold wpList;rw[if_pos (by unfold Region.wanted;rw[amV])];exact .inl (Oper.wp_mono (fun a'' yS hq=>by unfold wpList;exact hq) (hh w' h1 h2))
   |cons=>exact hh
  |cons o L ih=>
   intro s facts b hh;cases s with
   |nil=>exact hh
   |cons p s=>
    cases p with
    |val v=>exact⟨hh.1,ih _ _ _ hh.2⟩
    |any V=>obtain⟨t,h1,h2,h3⟩:=hh;exact⟨t,h1,h2,fun u=>ih _ _ _ (h3 u)⟩
 exact key _ _ _ _ h
end Go.Proofs.YtmgmclkplepapaaGreatDoor
