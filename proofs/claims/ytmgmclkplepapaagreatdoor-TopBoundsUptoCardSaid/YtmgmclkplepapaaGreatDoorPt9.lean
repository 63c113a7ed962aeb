/- Part of the proof of TopBoundsUptoCardSaid. Conditions: none beyond the statement. -/
import Derived.Deep.WholeRow
import Derived.Deep.RegionLaw
import Derived.Test.YtmgmclkplepapaaGreatDoorPt4
import Derived.Test.YtmgmclkplepapaaGreatDoorPt8
set_option linter.all false
set_option maxRecDepth 100000
set_option maxHeartbeats 64000000
namespace Go.Proofs.YtmgmclkplepapaaGreatDoor
open Go.RowKit
def str (l:List UInt8):Value:= .string ⟨l.toArray⟩
def kv (a b:List UInt8):Value:= .agg #[str a,str b]
def cN:List (List UInt8×List UInt8×Int):=
 [([97],[104,114,101,102],1),
  ([97,114,101,97],[104,114,101,102],1),
  ([108,105,110,107],[104,114,101,102],1),
  ([105,109,103],[115,114,99],1),
  ([105,109,103],[108,111,110,103,100,101,115,99],1),
  ([115,99,114,105,112,116],[115,114,99],1),
  ([105,102,114,97,109,101],[115,114,99],1),
  ([101,109,98,101,100],[115,114,99],1),
  ([111,98,106,101,99,116],[100,97,116,97],1),
  ([118,105,100,101,111],[115,114,99],1),
  ([118,105,100,101,111],[112,111,115,116,101,114],1),
  ([97,117,100,105,111],[115,114,99],1),
  ([115,111,117,114,99,101],[115,114,99],1),
  ([116,114,97,99,107],[115,114,99],1),
  ([105,110,112,117,116],[115,114,99],1),
  ([105,110,112,117,116],[102,111,114,109,97,99,116,105,111,110],1),
  ([98,117,116,116,111,110],[102,111,114,109,97,99,116,105,111,110],1),
  ([102,111,114,109],[97,99,116,105,111,110],1),
  ([98,108,111,99,107,113,117,111,116,101],[99,105,116,101],1),
  ([113],[99,105,116,101],1),
  ([105,110,115],[99,105,116,101],1),
  ([100,101,108],[99,105,116,101],1),
  ([98,111,100,121],[98,97,99,107,103,114,111,117,110,100],1),
  ([105,109,103],[115,114,99,115,101,116],2),
  ([115,111,117,114,99,101],[115,114,99,115,101,116],2),
  ([108,105,110,107],[105,109,97,103,101,115,114,99,115,101,116],2),
  ([109,101,116,97],[99,111,110,116,101,110,116],3)]
theorem Cl (w:World) (a b c d:List UInt8):
 (Op.equal 60 (kv a b) (kv c d)).run Tryz.prog w= .ok (decide (a=c)&&decide (b=d)) w:=by
 have h1:Tryz.prog.underlying 60=some (.struct (Tryz.prog.fieldsOf 60)):=by kernel_rfl
 have h2:Tryz.prog.stoodInHeld 60=false:=by kernel_rfl
 unfold Op.equal Op.maxDepth kv str;rw[run_equalIn_struct w 9999 60 _ _ h1 h2];simp only[go_sem,Tryz.underlying60,Tryz.underlying9];by_cases hac:a=c<;>by_cases hbd:b=d<;>simp[hac,hbd,go_sem,Tryz.underlying9]
def Holds (es:List MapEntry) (T:List (List UInt8×List UInt8×Int)):Prop:=
 es.map (fun e=>(e.key,e.val))=T.map (fun t=>(kv t.1 t.2.1,Value.int .i64 t.2.2))
def look (a b:List UInt8):List (List UInt8×List UInt8×Int)→Option Int
 |[]=>none
 |t::r=>if a=t.1∧b=t.2.1 then some t.2.2 else look a b r
theorem Ba (w:World) (a b:List UInt8):∀(T:List (List UInt8×List UInt8×Int)) (es:List MapEntry) (i:Nat),Holds es T→
 ∃j,(Instr.findAsking 60 (kv a b) es i).run Tryz.prog w= .ok ((look a b T).map fun v=>(j,Value.int .i64 v)) w
 |[],es,i,h=>by
  have:es=[]:=by simpa[Holds] using h
  subst this;exact⟨0,by simp[Instr.findAsking,look]⟩
 |t::T,es,i,h=>by
  cases es with
  |nil=>simp[Holds] at h
  |cons e es=>
   have h':(e.key=kv t.1 t.2.1∧e.val=Value.int .i64 t.2.2)∧Holds es T:=by simpa[Holds] using h
   obtain⟨⟨hk,hv⟩,hT⟩:=h';obtain⟨j,hj⟩:=Ba w a b T es (i+1) hT;by_cases hab:a=t.1∧b=t.2.1;·refine⟨i,?_⟩;simp[Instr.findAsking,hk,Cl,hab,look,hv]
   ·refine⟨j,?_⟩;have hf:(decide (a=t.1)&&decide (b=t.2.1))=false:=by simpa using hab
    simp[Instr.findAsking,hk,Cl,hf,look,hab,hj]
theorem run_findKey (w:World) (a b:List UInt8) (T:List (List UInt8×List UInt8×Int)) (es:List MapEntry) (h:Holds es T):
 ∃j,(Instr.findKey 60 (kv a b) es).run Tryz.prog w= .ok ((look a b T).map fun v=>(j,Value.int .i64 v)) w:=by
 obtain⟨j,hj⟩:=Ba w a b T es 0 h;cases es with
 |nil=>
  have:T=[]:=by simpa[Holds] using h
  subst this;exact⟨0,by simp[Instr.findKey,Instr.findNow,look,run_underlying Tryz.underlying60]⟩
 |cons e es=>exact⟨j,by simp[Instr.findKey,Instr.findNow,run_underlying Tryz.underlying60,Instr.sameNow,hj]⟩
theorem Ih (w:World) (e:Bool) (a b:List UInt8) (n:Nat):(Instr.checkKey e (n+2) 60 (kv a b)).run Tryz.prog w= .ok () w:=by simp[Instr.checkKey,run_underlying Tryz.underlying60,run_underlying Tryz.underlying9,kv,str,go_sem]
theorem run_checkKey (w:World) (e:Bool) (a b:List UInt8):(Instr.checkKey e 10000 60 (kv a b)).run Tryz.prog w= .ok () w:=Ih w e a b 9998
theorem Gr (w:World) (B:Nat) (es:Array MapEntry) (clock:Nat) (T:List (List UInt8×List UInt8×Int)) (hb:w.heap[B]? =some (.map es clock)) (h:Holds es.toList T) (a b:List UInt8):
 (Instr.lookup 56 (.map (some B)) (kv a b) false).run Tryz.prog w= .ok (.int .i64 ((look a b T).getD 0)) w:=by
 obtain⟨j,hj⟩:=run_findKey w a b T es.toList h;have hz:(zeroValue 3).run Tryz.prog w= .ok (.int .i64 0) w:=by kernel_rfl
 simp only[Instr.lookup,Sem.run_bind,run_underlying Tryz.underlying56,Result.andThen_ok];cases hl:look a b T<;>rw[hl] at hj<;>simp[MapKept.run_getObj_map hb,run_checkKey,hj,hz]
theorem Gs (w:World) (B:Nat) (es:Array MapEntry) (clock:Nat) (T:List (List UInt8×List UInt8×Int)) (hb:w.heap[B]? =some (.map es clock)) (h:Holds es.toList T) (a b:List UInt8) (hn:look a b T=Option.none) (v:Int):
 ∃w',(Instr.mapUpdate 56 (.map (some B)) (kv a b) (.int .i64 v)).run Tryz.prog w= .ok () w'∧(∃e,w'.heap[B]? =some (.map (es.push e) (clock+1))∧e.key=kv a b∧e.val= .int .i64 v)∧(∀B0,B0≤B→Below B0 w w'):=by
 obtain⟨j,hj⟩:=run_findKey w a b T es.toList h;rw[hn] at hj;refine⟨ChangeMaps.setBlock w B (.map (es.push {key:=kv a b,val:= .int .i64 v,born:=clock}) (clock+1)),?_,⟨_,ChangeMaps.heap_setBlock_same hb _,rfl,rfl⟩,fun B0 hB=>⟨rfl,rfl,rfl,by simp[ChangeMaps.setBlock],fun k hk=>ChangeMaps.heap_setBlock_other hb _ (by omega)⟩⟩;simp only[Instr.mapUpdate,Sem.run_bind,run_underlying Tryz.underlying56,Result.andThen_ok];simp[MapKept.run_getObj_map hb,run_checkKey,hj,MapKept.run_setObj_map _ hb,ChangeMaps.setBlock]
def bOp (p:String) (j:Nat) (a b:List UInt8):Oper:={dst:=some (j+2),op:= .build 60 #[(0,.const (str a)),(1,.const (str b))],type:=60,pos:=p,after:= #[],guard:= .none}
def iOp (p:String) (j:Nat) (v:Int):Oper:={dst:= .none,op:= .insert 56 (.tmp 1) (.tmp (j+2)) (.const (.int .i64 v)),type:=0,pos:=p,after:= #[{on:=0,ground:= .data},{on:=2*j+1,ground:= .data}],guard:= .none}
def opsOf (p:String):Nat→List (List UInt8×List UInt8×Int)→List Oper
 |_,[]=>[]
 |j,t::r=>bOp p j t.1 t.2.1::iOp p j t.2.2::opsOf p (j+1) r
def nV (p:String):List Oper:=
 {dst:=some 1,op:= .makeMap 56 .none,type:=56,pos:=p,after:= #[],guard:= .none}::(opsOf p 0 cN++
  [{dst:=some 29,op:= .move (.tmp 1),type:=56,pos:=p,after:=((List.range 55).map fun i=>{on:=i,ground:= .data}).toArray,guard:= .none},
   {dst:=some 0,op:= .assign (.tmp 29),type:=56,pos:=p,after:=({on:=55,ground:= .data}::(List.range 56).map fun i=>{on:=i,ground:= .phase}).toArray,guard:= .none}])
theorem EE (p:String):∀(T:List (List UInt8×List UInt8×Int)) (n:Nat),(opsOf p n T).length=2*T.length
 |[],_=>rfl
 |t::T,n=>by simp[opsOf,EE p T];omega
theorem Ii (p:String):∀(T:List (List UInt8×List UInt8×Int)) (n j:Nat),(opsOf p n T)[2*j]? =T[j]?.map fun t=>bOp p (n+j) t.1 t.2.1
 |[],n,j=>by simp[opsOf]
 |t::T,n,0=>by simp[opsOf]
 |t::T,n,j+1=>by have:=Ii p T (n+1) j;rw[show 2*(j+1)=2*j+1+1 from by omega];simp only[opsOf,List.getElem?_cons_succ,this];rw[show n+1+j=n+(j+1) from by omega]
theorem K7 (p:String):∀(T:List (List UInt8×List UInt8×Int)) (n j:Nat),(opsOf p n T)[2*j+1]? =T[j]?.map fun t=>iOp p (n+j) t.2.2
 |[],n,j=>by simp[opsOf]
 |t::T,n,0=>by simp[opsOf]
 |t::T,n,j+1=>by have:=K7 p T (n+1) j;rw[show 2*(j+1)+1=(2*j+1)+1+1 from by omega];simp only[opsOf,List.getElem?_cons_succ,this];rw[show n+1+j=n+(j+1) from by omega]
theorem eQ:cN.length=27:=rfl
theorem zQ (p:String):(nV p).toArray.size=57:=rfl
theorem EF (p:String) {j:Nat} (h:j < 27):(nV p).toArray[2*j+1]? =some (bOp p j (cN[j]'h).1 (cN[j]'h).2.1):=by have:=Ii p cN 0 j;simp only[nV,List.getElem?_toArray,List.getElem?_cons_succ];rw[List.getElem?_append_left (by rw[EE,eQ];omega),this,List.getElem?_eq_getElem (by rw[eQ];exact h)];simp only[Option.map_some,Nat.zero_add];rfl
theorem EG (p:String) {j:Nat} (h:j < 27):(nV p).toArray[2*j+2]? =some (iOp p j (cN[j]'h).2.2):=by have:=K7 p cN 0 j;simp only[nV,List.getElem?_toArray,List.getElem?_cons_succ];rw[List.getElem?_append_left (by rw[EE,eQ];omega),this,List.getElem?_eq_getElem (by rw[eQ];exact h)];simp only[Option.map_some,Nat.zero_add];rfl
theorem Mn:(cN.map fun t=>(t.1,t.2.1)).Nodup:=by decide+kernel
theorem FF {i j:Nat} (hi:i < 27) (hj:j < 27) (h1:(cN[i]'hi).1=(cN[j]'hj).1) (h2:(cN[i]'hi).2.1=(cN[j]'hj).2.1):i=j:=by refine(List.getElem_inj (h₀:=by simp[eQ];exact hi) (h₁:=by simp[eQ];exact hj) Mn).1 ?_;simp only[List.getElem_map];exact Prod.ext h1 h2
theorem K8 {a b:List UInt8}:∀{T:List (List UInt8×List UInt8×Int)},(∀t∈T,¬(a=t.1∧b=t.2.1))→look a b T=Option.none
 |[],_=>rfl
 |t::T,h=>by rw[look,if_neg (h t (by simp))];exact K8 fun t ht=>h t (by simp[ht])
structure EH (W:World) (listed:Array Bool) (a:Act) (w:World):Prop where
 size:listed.size=57
 defers:a.defers=[]
 frame:a.tmps.size=30
 below:Below W.heap.size W w
 agI:listed.getD 0 false=false→w.heap.size=W.heap.size∧∀j,j < 27→listed.getD (2*j+2) false=false
 made:listed.getD 0 false=true→a.tmps.getD 1 undef= .map (some W.heap.size)∧∃es clock T,w.heap[W.heap.size]? =some (.map es clock)∧Holds es.toList T∧∀t,t∈T↔∃j,cN[j]? =some t∧listed.getD (2*j+2) false=true
 built:∀j (h:j < 27),listed.getD (2*j+1) false=true→a.tmps.getD (j+2) undef=kv (cN[j]'h).1 (cN[j]'h).2.1
 ajX:listed.getD 55 false=true→a.tmps.getD 29 undef= .map (some W.heap.size)
 done:listed.getD 56 false=true→a.tmps.getD 0 undef= .map (some W.heap.size)
theorem cI {listed:Array Bool} {i k:Nat} (hi:i < listed.size):(listed.setIfInBounds i true).getD k false=if i=k then true else listed.getD k false:=by
 by_cases h:i=k;·subst h;simp[hi]
 ·simp[h]
theorem jK {a:Act} {d k:Nat} {v:Value} (hd:d < a.tmps.size):(a.put (some d) v).tmps.getD k undef=if d=k then v else a.tmps.getD k undef:=by
 unfold Act.put;by_cases h:d=k;·subst h;simp[hd]
 ·simp[h]
theorem Vn {W:World} {listed:Array Bool} {a:Act} {w:World} (h:EH W listed a w) (hl:listed.getD 0 false=false) (dead:∀j,j < 27→listed.getD (2*j+2) false=false):
 EH W (listed.setIfInBounds 0 true) (a.put (some 1) (.map (some w.heap.size))) (w.alloc (.map #[] 0)):=by
 obtain⟨h1,h2,h3,h4,h5,h6,h7,h8,h9⟩:=h;obtain⟨hs,_⟩:=h5 hl;refine⟨by simpa using h1,by simpa[Act.put] using h2,by simpa[Act.put] using h3,h4.alloc (by omega) _,?_,?_,?_,?_,?_⟩;·intro hh;rw[cI (by omega)] at hh;simp at hh
 ·intro _;refine⟨by rw[jK (by omega)];simp[hs],#[],0,[],?_,rfl,fun t=>?_⟩;·show(w.heap.push _)[W.heap.size]? =_;rw[←hs];simp
  ·simp only[List.not_mem_nil,false_iff,not_exists,not_and];intro j e1;have bC:j < 27:=by have:=(List.getElem?_eq_some_iff.1 e1).1;rw[eQ] at this;exact this
   rw[cI (by omega),if_neg (by omega),dead j bC];simp
 ·intro j hj hh;rw[cI (by omega),if_neg (by omega)] at hh;rw[jK (by omega),if_neg (by omega)];exact h7 j hj hh
 ·intro hh;rw[cI (by omega),if_neg (by omega)] at hh;rw[jK (by omega),if_neg (by omega)];exact h8 hh
 ·intro hh;rw[cI (by omega),if_neg (by omega)] at hh;rw[jK (by omega),if_neg (by omega)];exact h9 hh
theorem RD {W:World} {listed:Array Bool} {a:Act} {w:World} (h:EH W listed a w) {j:Nat} (hj:j < 27):
 EH W (listed.setIfInBounds (2*j+1) true) (a.put (some (j+2)) (kv (cN[j]'hj).1 (cN[j]'hj).2.1)) w:=by
 obtain⟨h1,h2,h3,h4,h5,h6,h7,h8,h9⟩:=h;refine⟨by simpa using h1,by simpa[Act.put] using h2,by simpa[Act.put] using h3,h4,?_,?_,?_,?_,?_⟩;·intro hh;rw[cI (by omega),if_neg (by omega)] at hh;refine⟨(h5 hh).1,fun k hk=>?_⟩;rw[cI (by omega),if_neg (by omega)];exact(h5 hh).2 k hk
 ·intro hh;rw[cI (by omega),if_neg (by omega)] at hh;obtain⟨q1,es,clock,T,q2,q3,q4⟩:=h6 hh;refine⟨by rw[jK (by omega),if_neg (by omega)];exact q1,es,clock,T,q2,q3,fun t=>?_⟩;rw[q4 t];constructor;·rintro⟨k,e1,e2⟩;exact⟨k,e1,by rw[cI (by omega),if_neg (by omega)];exact e2⟩
  ·rintro⟨k,e1,e2⟩;rw[cI (by omega),if_neg (by omega)] at e2;exact⟨k,e1,e2⟩
 ·intro k hk hh;rw[jK (by omega)];by_cases e:j=k;·subst e;simp
  ·rw[if_neg (by omega)];rw[cI (by omega),if_neg (by omega)] at hh;exact h7 k hk hh
 ·intro hh;rw[cI (by omega),if_neg (by omega)] at hh;rw[jK (by omega),if_neg (by omega)];exact h8 hh
 ·intro hh;rw[cI (by omega),if_neg (by omega)] at hh;rw[jK (by omega),if_neg (by omega)];exact h9 hh
theorem Yq {W:World} {listed:Array Bool} {a:Act} {w w':World} (h:EH W listed a w) {j:Nat} (hj:j < 27) (h0:listed.getD 0 false=true)
 {es:Array MapEntry} {clock:Nat} {T:List (List UInt8×List UInt8×Int)} (_hb:w.heap[W.heap.size]? =some (.map es clock)) (hT:Holds es.toList T) (GY:∀t,t∈T↔∃j,cN[j]? =some t∧listed.getD (2*j+2) false=true)
 (hw:∃e,w'.heap[W.heap.size]? =some (.map (es.push e) (clock+1))∧e.key=kv (cN[j]'hj).1 (cN[j]'hj).2.1∧e.val= .int .i64 (cN[j]'hj).2.2) (uE:Below W.heap.size w w'):
 EH W (listed.setIfInBounds (2*j+2) true) (a.put .none undef) w':=by
 obtain⟨h1,h2,h3,h4,h5,h6,h7,h8,h9⟩:=h;obtain⟨e,aB,JN,he3⟩:=hw;refine⟨by simpa using h1,h2,h3,h4.trans uE,?_,?_,?_,?_,?_⟩;·intro hh;rw[cI (by omega),if_neg (by omega),h0] at hh;simp at hh
 ·intro _;refine⟨(h6 h0).1,_,_,T++[cN[j]'hj],aB,?_,fun t=>?_⟩;·unfold Holds at hT⊢;simp[hT,JN,he3]
  ·rw[List.mem_append,GY t];constructor
   ·rintro(⟨k,e1,e2⟩|hm)
    ·refine⟨k,e1,?_⟩;rw[cI (by omega)];split;·rfl
     ·exact e2
    ·simp only[List.mem_singleton] at hm;refine⟨j,by rw[hm];exact List.getElem?_eq_getElem (by rw[eQ];exact hj),?_⟩;rw[cI (by omega),if_pos rfl]
   ·rintro⟨k,e1,e2⟩;by_cases hk:k=j;·subst hk;right;rw[List.getElem?_eq_getElem (by rw[eQ];exact hj)] at e1;simp only[Option.some.injEq] at e1;rw[←e1];exact List.mem_singleton.2 rfl
    ·left;rw[cI (by omega),if_neg (by omega)] at e2;exact⟨k,e1,e2⟩
 ·intro k hk hh;rw[cI (by omega),if_neg (by omega)] at hh;exact h7 k hk hh
 ·intro hh;rw[cI (by omega),if_neg (by omega)] at hh;exact h8 hh
 ·intro hh;rw[cI (by omega),if_neg (by omega)] at hh;exact h9 hh
theorem RE {W:World} {listed:Array Bool} {a:Act} {w:World} (h:EH W listed a w):
 EH W (listed.setIfInBounds 55 true) (a.put (some 29) (.map (some W.heap.size))) w:=by
 obtain⟨h1,h2,h3,h4,h5,h6,h7,h8,h9⟩:=h;refine⟨by simpa using h1,by simpa[Act.put] using h2,by simpa[Act.put] using h3,h4,?_,?_,?_,?_,?_⟩;·intro hh;rw[cI (by omega),if_neg (by omega)] at hh;refine⟨(h5 hh).1,fun k hk=>?_⟩;rw[cI (by omega),if_neg (by omega)];exact(h5 hh).2 k hk
 ·intro hh;rw[cI (by omega),if_neg (by omega)] at hh;obtain⟨q1,es,clock,T,q2,q3,q4⟩:=h6 hh;refine⟨by rw[jK (by omega),if_neg (by omega)];exact q1,es,clock,T,q2,q3,fun t=>?_⟩;rw[q4 t];constructor;·rintro⟨k,e1,e2⟩;exact⟨k,e1,by rw[cI (by omega),if_neg (by omega)];exact e2⟩
  ·rintro⟨k,e1,e2⟩;rw[cI (by omega),if_neg (by omega)] at e2;exact⟨k,e1,e2⟩
 ·intro k hk hh;rw[cI (by omega),if_neg (by omega)] at hh;rw[jK (by omega),if_neg (by omega)];exact h7 k hk hh
 ·intro _;rw[jK (by omega),if_pos rfl]
 ·intro hh;rw[cI (by omega),if_neg (by omega)] at hh;rw[jK (by omega),if_neg (by omega)];exact h9 hh
theorem Vo {W:World} {listed:Array Bool} {a:Act} {w:World} (h:EH W listed a w):
 EH W (listed.setIfInBounds 56 true) (a.put (some 0) (.map (some W.heap.size))) w:=by
 obtain⟨h1,h2,h3,h4,h5,h6,h7,h8,h9⟩:=h;refine⟨by simpa using h1,by simpa[Act.put] using h2,by simpa[Act.put] using h3,h4,?_,?_,?_,?_,?_⟩;·intro hh;rw[cI (by omega),if_neg (by omega)] at hh;refine⟨(h5 hh).1,fun k hk=>?_⟩;rw[cI (by omega),if_neg (by omega)];exact(h5 hh).2 k hk
 ·intro hh;rw[cI (by omega),if_neg (by omega)] at hh;obtain⟨q1,es,clock,T,q2,q3,q4⟩:=h6 hh;refine⟨by rw[jK (by omega),if_neg (by omega)];exact q1,es,clock,T,q2,q3,fun t=>?_⟩;rw[q4 t];have bC:∀k,cN[k]? =some t→k < 27:=fun k e1=>by have:=(List.getElem?_eq_some_iff.1 e1).1;rw[eQ] at this;exact this
  constructor;·rintro⟨k,e1,e2⟩;have:=bC k e1;exact⟨k,e1,by rw[cI (by omega),if_neg (by omega)];exact e2⟩
  ·rintro⟨k,e1,e2⟩;have:=bC k e1;rw[cI (by omega),if_neg (by omega)] at e2;exact⟨k,e1,e2⟩
 ·intro k hk hh;rw[cI (by omega),if_neg (by omega)] at hh;rw[jK (by omega),if_neg (by omega)];exact h7 k hk hh
 ·intro hh;rw[cI (by omega),if_neg (by omega)] at hh;rw[jK (by omega),if_neg (by omega)];exact h8 hh
 ·intro _;rw[jK (by omega),if_pos rfl]
theorem EI (p:String):(nV p).toArray[0]? =some {dst:=some 1,op:= .makeMap 56 .none,type:=56,pos:=p,after:= #[],guard:= .none}:=rfl
theorem CJ (p:String):(nV p).toArray[55]? =some {dst:=some 29,op:= .move (.tmp 1),type:=56,pos:=p,after:=((List.range 55).map fun i=>{on:=i,ground:= .data}).toArray,guard:= .none}:=rfl
theorem CK (p:String):(nV p).toArray[56]? =some {dst:=some 0,op:= .assign (.tmp 29),type:=56,pos:=p,after:=({on:=55,ground:= .data}::(List.range 56).map fun i=>{on:=i,ground:= .phase}).toArray,guard:= .none}:=rfl
theorem Ke (w:World) (a b:List UInt8):(Instr.build 60 #[(0,str a),(1,str b)]).run Tryz.prog w= .ok (kv a b) w:=by kernel_rfl
theorem Vp (p:String) {Q:Exit→Act→World→Prop} {W:World} {listed:Array Bool} {a:Act} {w:World} {i:Nat} (h:EH W listed a w) (hi:i∈Region.ready .any (nV p).toArray listed):
 wpOp Tryz.prog (nV p).toArray Q i (fun a' w'=>EH W (listed.setIfInBounds i true) a' w') a w:=by
 have bC:i < 57:=by have:=(List.mem_filter.1 hi).1;rw[zQ p] at this;simpa using this
 have dO:i=0∨(∃j,j < 27∧i=2*j+1)∨(∃j,j < 27∧i=2*j+2)∨i=55∨i=56:=by
  by_cases h0:i=0;·exact .inl h0
  ·by_cases h1:i=55;·exact .inr (.inr (.inr (.inl h1)))
   ·by_cases h2:i=56;·exact .inr (.inr (.inr (.inr h2)))
    ·by_cases h3:i % 2=1;·exact .inr (.inl ⟨i / 2,by omega,by omega⟩)
     ·exact .inr (.inr (.inl ⟨i / 2 - 1,by omega,by omega⟩))
 rcases dO with rfl|⟨j,hj,rfl⟩|⟨j,hj,rfl⟩|rfl|rfl
 ·obtain⟨r1,r2⟩:=nF hi (EI p);have hl:listed.getD 0 false=false:=by have:=h.size;simp[this] at r1⊢;exact r1
  have hd:=(h.agI hl).2;have:=Vn h hl hd;unfold wpOp;rw[(EI p)];have hm:= @run_makeMap Tryz.prog;simp[Region.wanted,Oper.wp,execOp,hm];exact .inl this
 ·obtain⟨r1,r2⟩:=nF hi (EF p hj);have:=RD h hj;unfold wpOp;rw[EF p hj];have hb:=Ke w (cN[j]'hj).1 (cN[j]'hj).2.1;simp only[Region.wanted,bOp,if_true,Oper.wp,execOp,List.map_toArray,List.map_cons,List.map_nil,Act.eval,Sem.run_bind,hb,Result.andThen_ok,Sem.run_pure,Oper.upon];exact .inl this
 ·obtain⟨r1,r2⟩:=nF hi (EG p hj);have e0:=r2 {on:=0,ground:= .data} (by simp[iOp]) rfl;have e1:=r2 {on:=2*j+1,ground:= .data} (by simp[iOp]) rfl;have hl:listed.getD (2*j+2) false=false:=by
   have:=h.size;have hx:2*j+2 < listed.size:=by omega
   simp[hx] at r1⊢;exact r1
  obtain⟨m1,es,clock,T,m2,m3,m4⟩:=h.made e0;have hb:=h.built j hj e1;have hn:look (cN[j]'hj).1 (cN[j]'hj).2.1 T=Option.none:=K8 fun t ht hh=>by
   obtain⟨k,k1,k2⟩:=(m4 t).1 ht;have hk:k < 27:=by have:=(List.getElem?_eq_some_iff.1 k1).1;rw[eQ] at this;exact this
   have Dr:cN[k]'hk=t:=by rw[List.getElem?_eq_getElem (by rw[eQ];exact hk)] at k1;exact Option.some.inj k1
   have:j=k:=FF hj hk (by rw[Dr];exact hh.1) (by rw[Dr];exact hh.2);subst this;rw[hl] at k2;simp at k2
  obtain⟨w',hr,hw,uE⟩:=Gs w _ es clock T m2 m3 _ _ hn (cN[j]'hj).2.2;have:=Yq h hj e0 m2 m3 m4 hw (uE _ (Nat.le_refl _));unfold wpOp;rw[EG p hj];simp only[Region.wanted,iOp,if_true,Oper.wp,execOp,Act.eval,Sem.run_bind,m1,hb,hr,Result.andThen_ok,Sem.run_pure,Oper.upon];exact .inl this
 ·obtain⟨r1,r2⟩:=nF hi (CJ p);have e0:=r2 {on:=0,ground:= .data} (by simp) rfl;obtain⟨m1,_⟩:=h.made e0;have:=RE h;unfold wpOp;rw[(CJ p)];simp only[Region.wanted,if_true,Oper.wp,execOp,Act.eval,m1,Sem.run_pure,Oper.upon];exact .inl this
 ·obtain⟨r1,r2⟩:=nF hi (CK p);have e0:=r2 {on:=55,ground:= .data} (by simp) rfl;have m1:=h.ajX e0;have:=Vo h;unfold wpOp;rw[(CK p)];simp only[Region.wanted,if_true,Oper.wp,execOp,Act.eval,m1,Sem.run_pure,Oper.upon];exact .inl this
theorem RF (p:String) {listed:Array Bool} (hs:listed.size=57) (hr:Region.ready .any (nV p).toArray listed=[]):∀i,i < 57→listed.getD i false=true:=by
 intro i;induction i using Nat.strongRecOn with
 |_ i ih=>
  intro bC;cases hc:listed.getD i false with
  |true=>rfl
  |false=>
   exfalso;have dO:i=0∨(∃j,j < 27∧i=2*j+1)∨(∃j,j < 27∧i=2*j+2)∨i=55∨i=56:=by
    by_cases h0:i=0;·exact .inl h0
    ·by_cases h1:i=55;·exact .inr (.inr (.inr (.inl h1)))
     ·by_cases h2:i=56;·exact .inr (.inr (.inr (.inr h2)))
      ·by_cases h3:i % 2=1;·exact .inr (.inl ⟨i / 2,by omega,by omega⟩)
       ·exact .inr (.inr (.inl ⟨i / 2 - 1,by omega,by omega⟩))
   have hex:∃o,(nV p).toArray[i]? =some o∧∀e∈o.after,e.on < i:=by
    rcases dO with rfl|⟨j,hj,rfl⟩|⟨j,hj,rfl⟩|rfl|rfl;·exact⟨_,(EI p),by simp⟩
    ·exact⟨_,EF p hj,by simp[bOp]⟩
    ·exact⟨_,EG p hj,by simp[iOp]⟩
    ·exact⟨_,(CJ p),by simp⟩
    ·exact⟨_,(CK p),by simp⟩
   obtain⟨o,ho,Yr⟩:=hex;have hx:i < listed.size:=by omega
   have hm:i∈Region.ready .any (nV p).toArray listed:=by unfold Region.ready;rw[List.mem_filter];refine⟨by rw[zQ p];simpa using bC,?_⟩;simp only[Bool.and_eq_true,ho,Option.map_some,Option.getD_some,Array.all_eq_true_iff_forall_mem,Bool.or_eq_true];refine⟨?_,fun e he=> .inr (ih e.on (Yr e he) (by have:=Yr e he;omega))⟩;simp[hx] at hc⊢;exact hc
   rw[hr] at hm;simp at hm
theorem yA (n i:Nat):(Array.replicate n false).getD i false=false:=by by_cases h:i < n<;>simp[h]
theorem Oe (w:World):
 Calls Tryz.prog 18 #[] w fun e w'=>∃B es clock T,e= .returned (.map (some B))∧w'.heap[B]? =some (.map es clock)∧Holds es.toList T∧(∀t,t∈T↔t∈cN)∧w.heap.size≤B∧Below w.heap.size w w':=by
 go_enter Tryz.func18,Tryz.ntmps18;go_wp2;change Code.wp Tryz.prog (Code.region 1 (nV _).toArray true) _ _ _;refine wp_region_any (by kernel_rfl) ?_;refine xX (EH w) (fun listed a w' i h hi=>Vp _ h hi) ?_ _ _ _ _ (by decide+kernel) ?_
 ·intro listed a w' h hr;have iK:=RF _ h.size hr;have h56:=h.done (iK 56 (by omega));obtain⟨_,es,clock,T,m2,m3,m4⟩:=h.made (iK 0 (by omega));have hT:∀t,t∈T↔t∈cN:=fun t=>by
   rw[m4 t,List.mem_iff_getElem?];constructor;·rintro⟨j,e1,_⟩;exact⟨j,e1⟩
   ·rintro⟨j,e1⟩;have hk:j < 27:=by have:=(List.getElem?_eq_some_iff.1 e1).1;rw[eQ] at this;exact this
    exact⟨j,e1,iK _ (by omega)⟩
  have amX:=h.defers;have uE:=h.below;simp only[Exit.then];have hK:∀(a:Act) (w:World),Code.wp Tryz.prog Code.ret _ a w→_:=‹_›;refine hK _ _ (wp_ret ?_);refine bodyPost_ret (results_tmp rfl _ _ _) amX ?_;exact⟨w.heap.size,es,clock,T,by rw[h56],m2,m3,hT,Nat.le_refl _,uE⟩
 ·refine⟨by rw[zQ];simp,rfl,rfl,⟨rfl,rfl,rfl,Nat.le_refl _,fun _ _=>rfl⟩,fun _=>⟨rfl,fun j hj=>?_⟩,fun hh=>?_,fun j hj hh=>?_,fun hh=>?_,fun hh=>?_⟩;·exact yA _ _
  ·rw[yA] at hh;cases hh
  ·rw[yA] at hh;cases hh
  ·rw[yA] at hh;cases hh
  ·rw[yA] at hh;cases hh
def kindOf (a b:List UInt8):Int:=(look a b cN).getD 0
theorem yB {a b:List UInt8} {v:Int}:∀{T:List (List UInt8×List UInt8×Int)},look a b T=some v→(a,b,v)∈T
 |[],h=>by simp[look] at h
 |t::T,h=>by
  rw[look] at h;split at h
  ·next hc=>
   simp only[Option.some.injEq] at h;subst h;rw[hc.1,hc.2];exact List.mem_cons_self ..
  ·exact List.mem_cons_of_mem _ (yB h)
theorem Bb {a b:List UInt8} {v:Int}:∀{T:List (List UInt8×List UInt8×Int)},(a,b,v)∈T→∃u,look a b T=some u
 |[],h=>by simp at h
 |t::T,h=>by
  rw[look];split;·exact⟨_,rfl⟩
  ·next hc=>
   rcases List.mem_cons.1 h with h|h;·subst h;exact absurd ⟨rfl,rfl⟩ hc
   ·exact Bb h
theorem Of {a b:List UInt8} {u v:Int} (h1:(a,b,u)∈cN) (h2:(a,b,v)∈cN):u=v:=by obtain⟨i,hi,e1⟩:=List.mem_iff_getElem.1 h1;obtain⟨j,hj,e2⟩:=List.mem_iff_getElem.1 h2;have:i=j:=FF (by rw[eQ] at hi;exact hi) (by rw[eQ] at hj;exact hj) ((congrArg (fun x=>x.1) e1).trans (congrArg (fun x=>x.1) e2).symm) ((congrArg (fun x=>x.2.1) e1).trans (congrArg (fun x=>x.2.1) e2).symm);subst this;have:=e1.symm.trans e2;injection this with _ h;injection h
theorem Vq {T:List (List UInt8×List UInt8×Int)} (h:∀t,t∈T↔t∈cN) (a b:List UInt8):look a b T=look a b cN:=by
 cases h1:look a b T with
 |none=>
  cases h2:look a b cN with
  |none=>rfl
  |some v=>obtain⟨u,hu⟩:=Bb ((h _).2 (yB h2));rw[h1] at hu;cases hu
 |some v=>obtain⟨u,hu⟩:=Bb ((h _).1 (yB h1));rw[hu,Of (yB hu) ((h _).1 (yB h1))]
theorem Ij (s t:ByteArray) (w:World) (hs:s.size≤4000000000) (ht:t.size≤4000000000):
 Calls Tryz.prog 8 #[.string s,.string t] w fun e w'=>e= .returned (.int .i64 (kindOf (rI s.data.toList) (rI t.data.toList)))∧Below w.heap.size w w':=by
 go_enter Tryz.func8,Tryz.ntmps8;go_wp2_with fail;refine(Oe _).mono ?_;rintro e w1 ⟨B,es,clock,T,rfl,hb,hT,hm,hB,eN⟩;go_wp2_with fail;refine(wC s w1 hs).mono ?_;rintro e w2 ⟨rfl,dE⟩;go_wp2_with fail;refine(wC t w2 ht).mono ?_;rintro e w3 ⟨rfl,cF⟩;have bC:B < w1.heap.size:=(Array.getElem?_eq_some_iff.1 hb).1;have hb':w3.heap[B]? =some (.map es clock):=by rw[cF.block B (by have:=dE.size;omega),dE.block B bC];exact hb
 have hl:=Gr w3 B es clock T hb' hT (rI s.data.toList) (rI t.data.toList);rw[Vq hm] at hl;have uE:Below w.heap.size w w3:=(eN.trans (dE.mono eN.size)).trans (cF.mono (Nat.le_trans eN.size dE.size));unfold kv str at hl;clear hb hT hm hB hb' bC eN dE cF;go_wp2;go_ret;exact⟨rfl,uE⟩
theorem rK {ops:Array Oper} {rest:List Oper} {o:Oper} {a:Act} {Q:Exit→Act→World→Prop} (hg:o.guard=none) (t:TypeId) (p x:Operand) (JM:o.op= .store t p x) (w:World) (c c':Array Value)
 (g:Nat) (hp:a.eval p= .pointer (some ⟨g,0,none⟩)) (hgs:w.heap.size=g) (hx:a.eval x= .agg c') (hi:(Tryz.prog.info? t).map (·.size)=some c'.size) (ho:c.size=c'.size) (h1:c'.all (·.oneCell')=true)
 (hK:wpList Tryz.prog ops Q rest (a.put o.dst undef) (w.alloc (.cells c' t))):wpList Tryz.prog ops Q (o::rest) a (w.alloc (.cells c t)):=by
 subst hgs;refine wpList_plain hg fun K' Gt=>?_;have hr:=run_storeAt_new (P:=Tryz.prog) w t c c' hi ho h1;unfold Oper.wp;simp[execOp,JM,hp,hx,hr,Result.andThen];exact Gt _ _ hK
theorem aG {ops:Array Oper} {rest:List Oper} {o:Oper} {a:Act} {Q:Exit→Act→World→Prop} (hg:o.guard=none) (t:TypeId) (fs:Array (Nat×Operand)) (JM:o.op= .build t fs) (w:World) (v:Value)
 (hr:(Instr.build t (fs.map fun p=>(p.1,a.eval p.2))).run Tryz.prog w= .ok v w)
 (hK:wpList Tryz.prog ops Q rest (a.put o.dst v) w):wpList Tryz.prog ops Q (o::rest) a w:=by
 refine wpList_plain hg fun K' Gt=>?_;unfold Oper.wp;simp[execOp,JM,hr,Result.andThen];exact Gt _ _ hK
theorem yC {ops:Array Oper} {rest:List Oper} {o:Oper} {a:Act} {Q:Exit→Act→World→Prop} (hg:o.guard=none) (t:TypeId) (JM:o.op= .alloc t) (w:World) (z:Array Value)
 (hz:∀uY,(Instr.alloc t true uY).run Tryz.prog w= .ok (.pointer (some ⟨w.heap.size,0,none⟩)) (w.alloc (.cells z t)))
 (hK:wpList Tryz.prog ops Q rest (a.put o.dst (.pointer (some ⟨w.heap.size,0,none⟩))) (w.alloc (.cells z t))):wpList Tryz.prog ops Q (o::rest) a w:=by
 refine wpList_plain hg fun K' Gt=>?_;unfold Oper.wp;simp[execOp,JM,hz,Result.andThen];exact Gt _ _ hK
theorem Mo (t:TypeId) (n:Nat) (w:World) (g:Nat) (c:Array Value) (a1:∀w,(isAgg t).run Tryz.prog w= .ok true w) (z1:∀w,(Go.sizeOf t).run Tryz.prog w= .ok n w) (iW:c.size=n) (aW:w.heap[g]? =some (.cells c t)):
 (Instr.loadAt t (.pointer (some ⟨g,0,none⟩))).run Tryz.prog w= .ok (.agg c) w:=by
 have h:=run_loadCells_list (P:=Tryz.prog) w ⟨g,0,none⟩ c.toList (fun j v hv=>by
  have agJ:(⟨g,0,none⟩:Addr).add j=⟨g,j,none⟩:=by unfold Addr.add;split<;>simp_all
  rw[agJ,cell_of_row _ _ j c t (0,0) aW];simpa using hv)
 have hl:c.toList.length=n:=by simpa using iW
 rw[hl] at h;simp[Instr.loadAt,Instr.sureAddr,loadVar,a1,z1,Result.andThen,h]
theorem Gu {ops:Array Oper} {rest:List Oper} {o:Oper} {a:Act} {Q:Exit→Act→World→Prop} (hw:Region.wanted o (yielded ops a.tmps)=true) (t:TypeId) (p:Operand) (JM:o.op= .load t p) (n:Nat) (w:World) (g:Nat) (c:Array Value)
 (a1:∀w,(isAgg t).run Tryz.prog w= .ok true w) (z1:∀w,(Go.sizeOf t).run Tryz.prog w= .ok n w) (iW:c.size=n) (hp:a.eval p= .pointer (some ⟨g,0,none⟩)) (aW:w.heap[g]? =some (.cells c t)) (hK:wpList Tryz.prog ops Q rest (a.put o.dst (.agg c)) w):
 wpList Tryz.prog ops Q (o::rest) a w:=by
 refine bF hw fun K' Gt=>?_;have hr:=Mo t n w g c a1 z1 iW aW;unfold Oper.wp;simp[execOp,JM,hp,hr,Result.andThen];exact Gt _ _ hK
theorem Vr (w:World) (o:Obj):(w.alloc o).heap[w.heap.size]? =some o:=by show(w.heap.push o)[w.heap.size]? =_;simp
theorem xC (w:World) (o:Obj):Below w.heap.size w (w.alloc o):=(Below.refl _ _).alloc (Nat.le_refl _) o
theorem Gv {o:Oper} {a:Act} {K:Act→World→Prop} {Q:Exit→Act→World→Prop} (w:World) (base:Nat) (v:Value) (l news:List UInt8)
 (s x:Operand) (ho:o.op= .call {callee:= .builtin .append,args:= #[s,x],argTypes:= #[25,25]})
 (hs:a.eval s=v) (bE:fC w base v l) (h c:Nat) (hx:a.eval x= .slice (some ⟨h,0,none⟩) news.length c) (aW:∀j (hj:j < news.length),w.cell? ⟨h,j,none⟩=some (iP news[j]))
 (hlen:l.length+news.length≤4000000000) (kX:base≤w.heap.size)
 (hK:∀v' w',fC w' base v' (l++news)→Below base w w'→K (a.put o.dst v') w'):o.wp Tryz.prog a w K Q:=by
 obtain⟨i0,hi,vO,rX,qL⟩:=info_parts zJ;refine wp_append_own w s x 25 ho base 5 i0 (.int .u8 0) 1 1 Tryz.underlying25 hi vO rX qL rfl (by decide) v l.length (l.map iP) hs bE ⟨h,0,none⟩ news.length c (news.map iP) hx (by simp)
  ?_ ?_ (by unfold maxLen;omega) (by omega) kX fun v' w' h1 h2 _=>?_
 ·intro j u hj;have KW:j < news.length:=by have:=(List.getElem?_eq_some_iff.1 hj).1;simpa using this
  rw[List.getElem?_map,List.getElem?_eq_getElem KW] at hj;simp at hj;rw[CH,aW j KW,hj]
 ·intro u hu;obtain⟨b,_,rfl⟩:=List.mem_map.1 hu;rfl
 ·refine hK v' w' ?_ ?_;·unfold fC;simpa using h1
  ·exact(Below.refl _ _).grown h2 kX (fun k hk=>(World.ownsRow.lt bE k hk).1)
theorem B7 {ops:Array Oper} {rest:List Oper} {o:Oper} {a:Act} {Q:Exit→Act→World→Prop} (w:World) (base:Nat) (v:Value) (l news:List UInt8) (tK:o.guard=none)
 (s x:Operand) (ho:o.op= .call {callee:= .builtin .append,args:= #[s,x],argTypes:= #[25,25]})
 (hs:a.eval s=v) (bE:fC w base v l) (h c:Nat) (hx:a.eval x= .slice (some ⟨h,0,none⟩) news.length c) (aW:∀j (hj:j < news.length),w.cell? ⟨h,j,none⟩=some (iP news[j]))
 (hlen:l.length+news.length≤4000000000) (kX:base≤w.heap.size)
 (hK:∀v' w',fC w' base v' (l++news)→Below base w w'→wpList Tryz.prog ops Q rest (a.put o.dst v') w'):wpList Tryz.prog ops Q (o::rest) a w:=
 wpList_plain tK fun _ Gt=>Gv w base v l news s x ho hs bE h c hx aW hlen kX fun v' w' h1 h2=>Gt _ _ (hK v' w' h1 h2)
theorem RG (w:World) (news:List UInt8) (t:TypeId):∀j (hj:j < news.length),(w.alloc (.cells (news.map iP).toArray t)).cell? ⟨w.heap.size,j,none⟩=some (iP news[j]):=by intro j hj;rw[World.cell?_alloc_mark w (news.map iP).toArray t (0,0) j];simp[List.getElem?_eq_getElem hj]
theorem fC.made {w:World} {base:Nat} {v:Value} {l:List UInt8} (h:fC w base v l) (o:Obj):fC (w.alloc o).drew base v l:=
 h.below (Below.drew (Below.alloc (Below.refl w.heap.size w) (Nat.le_refl _) o))
end Go.Proofs.YtmgmclkplepapaaGreatDoor
