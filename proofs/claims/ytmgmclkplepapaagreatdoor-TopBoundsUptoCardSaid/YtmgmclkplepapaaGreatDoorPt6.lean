/- Part of the proof of TopBoundsUptoCardSaid. Conditions: none beyond the statement. -/
import Derived.Test.YtmgmclkplepapaaGreatDoorPt5
set_option linter.all false
set_option maxRecDepth 100000
set_option maxHeartbeats 64000000
namespace Go.Proofs.YtmgmclkplepapaaGreatDoor
open Go.RowKit
def A6 (L:Nat→Bool) (i:Nat):Nat→Bool:=fun k=>if k=i then true else L k
theorem kN (L:Nat→Bool) (i:Nat):A6 L i i=true:=by unfold A6;rw[if_pos rfl]
theorem aU (L:Nat→Bool) {i k:Nat} (h:k≠i):A6 L i k=L k:=by unfold A6;rw[if_neg h]
def Yh (P:Program) (ops:Array Oper) (I:(Nat→Bool)→World→Prop) (i:Nat) (o:Oper) (a:Act) (v:Value):Prop:=
 (Region.wanted o (yielded ops a.tmps)=false∧v=undef∧∀L w,I L w→I (A6 L i) w)∨
 (Region.wanted o (yielded ops a.tmps)=true∧∀L w,I L w→L i=false→o.wp P a w (fun a' w'=>a'=a.put o.dst v∧I (A6 L i) w') (fun _ _ _=>False))
def iX (P:Program) (ops:Array Oper) (I:(Nat→Bool)→World→Prop) (Fin:Act→Prop):Nat→List Oper→Act→Prop
 |_,[],a=>Fin a
 |i,o::r,a=>∃v,Yh P ops I i o a v∧iX P ops I Fin (i+1) r (a.put o.dst v)
theorem iX.step {P:Program} {ops:Array Oper} {I:(Nat→Bool)→World→Prop} {Fin:Act→Prop} {i:Nat} {o:Oper} {r:List Oper} {a:Act} {v:Value} (hw:Region.wanted o (yielded ops a.tmps)=true)
 (h:∀L w,I L w→L i=false→∀K:Act→World→Prop,(∀w',I (A6 L i) w'→K (a.put o.dst v) w')→o.wp P a w K (fun _ _ _=>False)) (hr:iX P ops I Fin (i+1) r (a.put o.dst v)):iX P ops I Fin i (o::r) a:=
 ⟨v,.inr ⟨hw,fun L w hI hl=>h L w hI hl _ fun _ h'=>⟨rfl,h'⟩⟩,hr⟩
theorem iX.nil {P:Program} {ops:Array Oper} {I:(Nat→Bool)→World→Prop} {Fin:Act→Prop} {i:Nat} {a:Act} (h:Fin a):iX P ops I Fin i [] a:=h
theorem iX.wZ {P:Program} {ops:Array Oper} {I:(Nat→Bool)→World→Prop} {Fin:Act→Prop}:∀(k:Nat) (L:List Oper) (a:Act),iX P ops I Fin k L a→
 ∃st:Nat→Act,st 0=a∧Fin (st L.length)∧∀(i:Nat) (o:Oper),L[i]? =some o→∃v,Yh P ops I (k+i) o (st i) v∧st (i+1)=(st i).put o.dst v
 |k,[],a,h=>⟨fun _=>a,rfl,h,fun i o h=>by simp at h⟩
 |k,o::L,a,⟨v,hv,hr⟩=>by
  obtain⟨st,h0,hF,hs⟩:=iX.wZ (k+1) L _ hr;refine⟨fun j=>match j with|0=>a|j+1=>st j,rfl,hF,fun i p hp=>?_⟩;cases i with
  |zero=>simp at hp;subst hp;exact⟨v,hv,h0⟩
  |succ i=>have:=hs i p (by simpa using hp);rw[show k+1+i=k+(i+1) by omega] at this;exact this
structure ajT (ops:Array Oper) (I:(Nat→Bool)→World→Prop) (a aF:Act) (listed:Array Bool) (b:Act) (w:World):Prop where
 size:listed.size=ops.size
 defs:b.defers=a.defers
 An:b.tmps.size=a.tmps.size
 world:I (fun k=>listed.getD k false) w
 done:∀(t:Tmp) (i:Nat) (o:Oper),ops[i]? =some o→o.dst=some t→listed.getD i false=true→b.tmps[t]? =aF.tmps[t]?
 todo:∀t:Tmp,(∀(i:Nat) (o:Oper),ops[i]? =some o→o.dst=some t→listed.getD i false=false)→b.tmps[t]? =a.tmps[t]?
theorem BT {P:Program} {ops:Array Oper} {Q:Exit→Act→World→Prop} {id:Nat} {a:Act} {w:World} (I:(Nat→Bool)→World→Prop) (hm:P.follows .mixedOrders=true) (qK:H9 ops ops.size=true)
 (hI:I (fun _=>false) w.drew) (h:iX P ops I (fun aF=>∀L w',(∀i,i < ops.size→L i=true)→I L w'→Q .normal aF w') 0 ops.toList a):(Code.region id ops true).wp P Q a w:=by
 have D:=Mi.of qK;obtain⟨st,h0,hF,hs⟩:=iX.wZ _ _ _ h;have hs':∀(i:Nat) (o:Oper),ops[i]? =some o→∃v,Yh P ops I i o (st i) v∧st (i+1)=(st i).put o.dst v:=fun i o ho=>by have:=hs i o (by simpa using ho);rwa[Nat.zero_add] at this
 have hn:ops.toList.length=ops.size:=by simp
 rw[hn] at hF;have sS:∀k,k≤ops.size→(st k).tmps.size=a.tmps.size∧(st k).defers=a.defers:=by
  intro k;induction k with
  |zero=>intro _;rw[h0];exact⟨rfl,rfl⟩
  |succ k ih=>intro hk;obtain⟨v,_,e⟩:=hs' k ops[k] (Array.getElem?_eq_getElem (by omega));rw[e,sR,mX];exact ih (by omega)
 have Ye:∀k,k≤ops.size→∀t:Tmp,(∀(j:Nat) (o:Oper),j < k→ops[j]? =some o→o.dst≠some t)→(st k).tmps[t]? =a.tmps[t]? :=by
  intro k;induction k with
  |zero=>intro _ t _;rw[h0]
  |succ k ih=>intro hk t wU;obtain⟨v,_,e⟩:=hs' k ops[k] (Array.getElem?_eq_getElem (by omega));rw[e,gZ _ _ (wU k ops[k] (by omega) (Array.getElem?_eq_getElem (by omega)))];exact ih (by omega) t fun j o hj=>wU j o (by omega)
 have Hy:∀(i:Nat) (o:Oper) (t:Tmp),ops[i]? =some o→o.dst=some t→∀k,i+1≤k→k≤ops.size→(st k).tmps[t]? =(st (i+1)).tmps[t]? :=by
  intro i o t ho ht k;induction k with
  |zero=>intro h _;omega
  |succ k ih=>
   intro hk jZ;by_cases e:k=i;·subst e;rfl
   ·obtain⟨v,_,e'⟩:=hs' k ops[k] (Array.getElem?_eq_getElem (by omega));rw[e',gZ _ _ (D.once k ops[k] i o (Array.getElem?_eq_getElem (by omega)) ho (by omega) t ht)];exact ih (by omega) (by omega)
 refine wp_region_any hm (xX (ajT ops I a (st ops.size)) ?_ ?_ _ _ _ _ ?_ ?_)
 ·intro listed b w i hinv hi;have bC:i < ops.size:=by have:=(List.mem_filter.1 hi).1;simpa using this
  have ho:ops[i]? =some ops[i]:=Array.getElem?_eq_getElem bC;generalize ops[i]=o at ho;obtain⟨r1,r2⟩:=nF hi ho;obtain⟨v,hv,tH⟩:=hs' i o ho;have Ua:i < listed.size:=by rw[hinv.size];exact bC
  have agree:∀t∈o.looksAt ops,b.tmps[t]? =(st i).tmps[t]? :=by
   intro t ht;by_cases hex:∃(j:Nat) (p:Oper),ops[j]? =some p∧p.dst=some t
   ·obtain⟨j,p,hj,hp⟩:=hex;obtain⟨e,he,hb,pA⟩:=D.ahead i o ho t ht j p (Array.getElem?_eq_some_iff.1 hj).1 hj hp;have hlj:listed.getD j false=true:=by rw[←pA];exact r2 e he hb
    have G0:j < i:=by rw[←pA];exact D.back i o ho e he hb
    rw[hinv.done t j p hj hp hlj,Hy j p t hj hp ops.size (by omega) (Nat.le_refl _),Hy j p t hj hp i (by omega) (by omega)]
   ·rw[hinv.todo t fun j p hj hp=>absurd ⟨j,p,hj,hp⟩ hex,Ye i (by omega) t fun j p _ hj hp=>hex ⟨j,p,hj,hp⟩]
  have rC:b.tmps.size=(st i).tmps.size:=by rw[hinv.An,(sS i (by omega)).1]
  have ajU:(fun k=>(listed.setIfInBounds i true).getD k false)=A6 (fun k=>listed.getD k false) i:=by
   funext k;unfold A6;by_cases e:k=i;·subst e;simp[Ua]
   ·simp[e,Ne.symm e]
  have hlf:listed.getD i false=false:=by simp[Ua] at r1⊢;exact r1
  have uU:∀w',I (A6 (fun k=>listed.getD k false) i) w'→ajT ops I a (st ops.size) (listed.setIfInBounds i true) (b.put o.dst v) w':=by
   intro w' CI;refine⟨by simpa using hinv.size,by rw[mX];exact hinv.defs,by rw[sR];exact hinv.An,by rw[ajU];exact CI,fun t j p hj hp hl=>?_,fun t wU=>?_⟩
   ·by_cases e:j=i;·subst e;rw[ho] at hj;cases hj;rw[Hy j o t ho hp ops.size (by omega) (Nat.le_refl _),tH];exact N3 _ _ hp rC
    ·have eG:o.dst≠some t:=by
      by_cases G0:j < i;·exact D.once i o j p ho hj G0 t hp
      ·exact fun e'=>D.once j p i o hj ho (by omega) t e' hp
     rw[gZ _ _ eG];refine hinv.done t j p hj hp ?_;simpa[Ne.symm e] using hl
   ·have eG:o.dst≠some t:=fun e'=>by have:=wU i o ho e';simp[Ua] at this
    rw[gZ _ _ eG];refine hinv.todo t fun j p hj hp=>?_;have:=wU j p hj hp;by_cases e:j=i;·subst e;rw[ho] at hj;cases hj;exact absurd hp eG
    ·simpa[Ne.symm e] using this
  have xY:Region.wanted o (yielded ops b.tmps)=Region.wanted o (yielded ops (st i).tmps):=by
   unfold Region.wanted;cases hg:o.guard with
   |none=>rfl
   |some g=>obtain⟨j,want⟩:=g;simp only[];rw[rV (x:=b.tmps) (y:=(st i).tmps) (j:=j) fun t ht=>agree t (by simp[Oper.looksAt,hg,ht])]
  unfold wpOp;rw[ho];simp only[];rcases hv with⟨hw,hvu,hIs⟩|⟨hw,uV⟩;·rw[xY,hw];subst hvu;exact uU _ (hIs _ _ hinv.world)
  ·rw[xY,hw];simp only[if_true];left;have hev:execOp b.eval o=execOp (st i).eval o:=by
    refine execOp_congr o (D.plain i o ho) fun x hx=>?_;cases x with
    |tmp t=>
     have:=agree t (by
      unfold Oper.looksAt;refine List.mem_append_left _ (List.mem_filterMap.2 ⟨.tmp t,by simpa using hx,rfl⟩))
     simp only[Act.eval,Array.getD_eq_getD_getElem?,this]
    |_=>rfl
   have hr:=uV _ w hinv.world hlf;unfold Oper.wp at hr⊢;rw[hev];generalize (execOp (st i).eval o).run P w=res at hr;cases res with
   |ok nx w'=>
    cases nx with
    |value u=>simp only[Oper.upon] at hr⊢;rw[rU hr.1 rC];exact uU _ hr.2
    |skip=>simp only[Oper.upon] at hr⊢;rw[rU hr.1 rC];exact uU _ hr.2
    |enter f args=>
     simp only[Oper.upon] at hr⊢;refine Calls.mono hr fun e yT he=>?_;cases e with
     |returned u=>simp only[] at he⊢;rw[rU he.1 rC];exact uU _ he.2
     |panicked ch=>exact absurd he (by simp)
     |outgrown=>simp only[] at he;obtain⟨_,_,hh⟩:=he;exact absurd hh (by simp)
    |row rw' args=>simp only[Oper.upon] at hr⊢;refine Rows.mono hr fun u yT he=>?_;rw[rU he.1 rC];exact uU _ he.2
    |_=>first|(simp only[Oper.upon] at hr;done)|(simp only[Oper.upon] at hr;have:=congrArg (fun x:Act=>x.defers) hr.1;simp[mX] at this)
   |halt x w'=>cases x<;>simp only[Oper.upon] at hr
 ·intro listed b w hinv hr;have iK:∀i:Nat,i < ops.size→listed.getD i false=true:=by
   intro i;induction i using Nat.strongRecOn with
   |_ i ih=>
    intro bC;cases hc:listed.getD i false with
    |true=>rfl
    |false=>
     exfalso;have ho:ops[i]? =some ops[i]:=Array.getElem?_eq_getElem bC;have hx:i < listed.size:=by rw[hinv.size];exact bC
     have Ex:i∈Region.ready .any ops listed:=by
      unfold Region.ready;rw[List.mem_filter];refine⟨by simpa using bC,?_⟩;simp only[Bool.and_eq_true,ho,Option.map_some,Option.getD_some,Array.all_eq_true_iff_forall_mem,Bool.or_eq_true];refine⟨?_,fun e he=>?_⟩;rotate_left
      ·by_cases hbi:Region.binds .any e=true;·exact .inr (ih e.on (D.back i _ ho e he hbi) (by have:=D.back i _ ho e he hbi;omega))
       ·left;simpa using hbi
      simp[hx] at hc⊢;exact hc
     rw[hr] at Ex;simp at Ex
  have hb:b=st ops.size:=by
   have ht:b.tmps=(st ops.size).tmps:=by
    apply Array.ext_getElem?;intro t;by_cases hex:∃(j:Nat) (p:Oper),ops[j]? =some p∧p.dst=some t;·obtain⟨j,p,hj,hp⟩:=hex;exact hinv.done t j p hj hp (iK j (Array.getElem?_eq_some_iff.1 hj).1)
    ·rw[hinv.todo t fun j p hj hp=>absurd ⟨j,p,hj,hp⟩ hex,Ye ops.size (Nat.le_refl _) t fun j p _ hj hp=>hex ⟨j,p,hj,hp⟩]
   have hd:b.defers=(st ops.size).defers:=by rw[hinv.defs,(sS _ (Nat.le_refl _)).2]
   cases b;cases tH:st ops.size;rw[tH] at ht hd;simp only at ht hd;rw[ht,hd]
  rw[hb];exact hF _ w iK hinv.world
 ·have:=List.countP_le_length (p:=fun i=> !(Array.replicate ops.size false).getD i true) (l:=List.range ops.size);simpa using this
 ·exact⟨by simp,rfl,rfl,by
   have e:(fun k=>(Array.replicate ops.size false).getD k false)=fun _=>false:=by funext k;by_cases hk:k < ops.size<;>simp[hk]
   rw[e];exact hI,fun t i o ho _ hl=>by
   have hi:i < ops.size:=(Array.getElem?_eq_some_iff.1 ho).1;simp[hi] at hl,fun t _=>rfl⟩
end Go.Proofs.YtmgmclkplepapaaGreatDoor
