/- Part of the proof of TopBoundsUptoCardSaid. Conditions: none beyond the statement. -/
import Derived.Deep.MidRow
import Derived.Shelf.Strings.SlTrimAscii
import Derived.Test.YtmgmclkplepapaaGreatDoorPt22
set_option linter.all false
set_option maxRecDepth 100000
set_option maxHeartbeats 64000000
namespace Go.Proofs.YtmgmclkplepapaaGreatDoor
open Go.RowKit
def ahE (o:Option Int):Value:=match o with
 |none=> .tuple #[.int .i64 0,.bool false]
 |some n=> .tuple #[.int .i64 n,.bool true]
theorem Po (t:List UInt8):AU (45::t)=if 4 < t.length then none else(fJ t).map fun n=> -(n:Int):=rfl
theorem SB {s:List UInt8} (h:[45].isPrefixOf s=false):AU s=if 4 < (iI [43] s).length then none else(fJ (iI [43] s)).map fun n=>(n:Int):=by
 cases s with
 |nil=>rfl
 |cons c t=>
  have hc:c≠45:=fun e=>by subst e;cases h
  unfold AU;rw[if_neg (by simpa using hc)]
theorem SC (p s:List UInt8):(iI p s).length≤s.length:=by unfold iI;split<;>simp
theorem GK (s:List UInt8) (hs:s.length≤1000000000) (w:World):Calls Tryz.prog 189 #[.string (aA s)] w fun e w'=>e= .returned (ahE (AU s))∧w=w':=by
 cases hp:([45]:List UInt8).isPrefixOf s;have HC:=hid (jY s [45] hp w);have HE:=hid (SB hp);have HT:=hid (fun w=>Bn s [43] w);have e1:(if([43]:List UInt8).isPrefixOf s then s.drop [(43:UInt8)].length else s)=iI [43] s:=rfl;rw[e1] at HT;have hl:=SC [43] s;generalize iI [43] s=t at*;have HN:=hid (fun w=>oT t (by omega) w);have HZ:=aD t;generalize AU s=R at*;generalize aA s=x at*;clear e1 hp;by_cases h4:4 < t.length;have h4':4 < (aA t).size:=by omega
 have HR:Hid (R=none):=hid (by rw[HE.out,if_pos h4]);clear HZ HE h4 hl;have tg:=Tg.k 3;rotate_left;have h4':(aA t).size≤4:=by omega
 have hE:=HE.out;rw[if_neg h4] at hE;clear HZ HE h4 hl;rcases hw:fJ t with _|n;rw[hw] at hE HN;have HR:=hid hE;simp only[vG] at HN;clear hE hw;have tg:=Tg.k 4;rotate_left;rw[hw] at hE HN;have HR:=hid hE;simp only[vG] at HN;clear hE hw;have tg:=Tg.k 5;rotate_left;obtain⟨t,rfl⟩:∃t,s=45::t:=by
  cases s with
  |nil=>cases hp
  |cons c t=>simp at hp;exact⟨t,by rw[hp]⟩
 have HC:=hid (jA (45::t) [45] rfl w);have HE:=hid (Po t);rw[List.length_cons] at hs;have HN:=hid (fun w=>oT t (by omega) w);have HZ:=aD t;generalize AU (45::t)=R at*;generalize aA (45::t)=x at*;have e1:aA (List.drop [(45:UInt8)].length (45::t))=aA t:=rfl;rw[e1] at HC;clear e1 hp;by_cases h4:4 < t.length;have h4':4 < (aA t).size:=by omega
 have HR:Hid (R=none):=hid (by rw[HE.out,if_pos h4]);clear HZ HE h4;have tg:=Tg.k 0;rotate_left;have h4':(aA t).size≤4:=by omega
 have hE:=HE.out;rw[if_neg h4] at hE;clear HZ HE h4;rcases hw:fJ t with _|n;rw[hw] at hE HN;have HR:=hid hE;simp only[vG] at HN;clear hE hw;have tg:=Tg.k 1;rotate_left;rw[hw] at hE HN;have hn:=BW hw;have HR:=hid hE;simp only[vG] at HN;clear hE hw;have tg:=Tg.k 2;all_goals
  go_enter Tryz.func189,Tryz.ntmps189;go_wp2_with fail;refine(HC.out).mono ?_;rintro e w' ⟨rfl,rfl⟩;go_wp2_with fail;first
  |have:Tg 0:=tg
  |first
   |(first|have:Tg 1:=tg|have:Tg 2:=tg)
    refine(HN.out _).mono ?_
   |refine(HT.out _).mono ?_;first
    |have:Tg 3:=tg
    |rintro e w' ⟨rfl,rfl⟩;go_wp2_with fail;refine(HN.out _).mono ?_
   rintro e w' ⟨rfl,rfl⟩;go_wp2_with fail
  go_ret2;exact⟨hY (by rw[HR.out];rfl),rfl⟩
theorem adC:∀k:Fin 23,(match Ieee.double.read (xV k.val) with| .number _ m _=>m !=0|_=>false)=true:=by decide+kernel
theorem ahF:∀k:Fin 22,(Ieee.double.mul (xV k.val) agF).isSome=true:=by decide+kernel
theorem ahG {x p:Nat} (hx:(Ieee.double.read x).isNaN=false) (hp:(match Ieee.double.read p with| .number _ m _=>m !=0|_=>false)=true):
 Ieee.double.mul x p=some ((Ieee.double.mul x p).getD 0)∧Ieee.double.div x p=some ((Ieee.double.div x p).getD 0):=by
 unfold Ieee.Format.mul Ieee.Format.div;cases hq:Ieee.double.read p with
 |number s m e=>
  rw[hq] at hp;have hm:m≠0:=by simpa using hp
  cases hr:Ieee.double.read x with
  |number s' m' e'=>simp[Ieee.Datum.product,Ieee.Datum.quotient,hm]
  |infinity s'=>simp[Ieee.Datum.product,Ieee.Datum.quotient,hm]
  |nan s' t=>rw[hr] at hx;cases hx
 |infinity s=>rw[hq] at hp;cases hp
 |nan s t=>rw[hq] at hp;cases hp
theorem Ux (n:Nat):(Ieee.double.read (vX n)).isNaN=false:=by
 have key:∀r,r≤Ieee.double.infRung→(Ieee.double.read (Ieee.double.word false r)).isNaN=false:=by
  intro r hr;have h1:=Ieee.double.infRung_lt;have e:Ieee.double.word false r=r:=rfl;rw[e];unfold Ieee.Format.read;have h2:r % Ieee.double.signWeight=r:=Nat.mod_eq_of_lt (by omega);simp only[h2];by_cases a1:r < Ieee.double.binade;·rw[if_pos a1];rfl
  ·rw[if_neg a1];by_cases a2:r < Ieee.double.infRung;·rw[if_pos a2];rfl
   ·rw[if_neg a2,if_pos (by omega)];rfl
 unfold vX Ieee.Format.nearest;split;·exact key 0 (Nat.zero_le _)
 ·exact key _ (Nat.min_le_right _ _)
theorem FY (f:Nat) (m:Int) (hf:(Ieee.double.read f).isNaN=false) (h1: -22≤m) (h2:m≤22) (w:World):Calls Tryz.prog 190 #[.float .f64 f,.int .i64 m] w fun e w'=>e= .returned (.float .f64 (Am f m))∧w=w':=by
 obtain⟨a,ha,hm⟩:∃a:Nat,a≤22∧(m=(a:Int)∨m= -(a:Int)):=⟨m.natAbs,by omega,by omega⟩;have hP:=adC ⟨a,by omega⟩;obtain⟨hmul,hdiv⟩:=ahG hf hP;have qm:∀(t:TypeId) (W:World),(binOp .mul t (.float .f64 f) (.float .f64 (xV a))).run Tryz.prog W= .ok (.float .f64 ((Ieee.double.mul f (xV a)).getD 0)) W:=fun t W=>run_float_arith W .mul t .f64 _ _ _ hmul;have qd:∀(t:TypeId) (W:World),(binOp .quo t (.float .f64 f) (.float .f64 (xV a))).run Tryz.prog W= .ok (.float .f64 ((Ieee.double.div f (xV a)).getD 0)) W:=fun t W=>run_float_arith W .quo t .f64 _ _ _ hdiv;have HT:Hid (∀k,k < a→∀(t:TypeId) (W:World),(binOp .mul t (.float .f64 (xV k)) (.float .f64 4621819117588971520)).run Tryz.prog W= .ok (.float .f64 (xV (k+1))) W):=hid (fun k hk t W=>run_float_arith W .mul t .f64 _ _ _ (by
  have:=ahF ⟨k,by omega⟩;obtain⟨r,hr⟩:=Option.isSome_iff_exists.1 this;show Ieee.double.mul (xV k) agF=some (xV (k+1));simp only at hr;rw[hr,xV,hr];rfl))
 have e0:(4607182418800017408:Nat)=xV 0:=rfl;have SD:Hid (0≤m→Am f m=(Ieee.double.mul f (xV a)).getD 0):=hid (fun h=>by unfold Am;rw[if_neg (by omega),show m.natAbs=a by omega]);have HR2:Hid (m < 0→Am f m=(Ieee.double.div f (xV a)).getD 0):=hid (fun h=>by unfold Am;rw[if_pos h,show m.natAbs=a by omega]);generalize Am f m=R at*;generalize (Ieee.double.mul f (xV a)).getD 0=rm at*;generalize (Ieee.double.div f (xV a)).getD 0=rd at*;have hmx:max m (-m)=(a:Int):=by omega
 have HM:=hid hm;clear hmul hdiv hP hf hm e0;have QM:=hid qm;have QD:=hid qd;clear qm qd;go_enter Tryz.func190,Tryz.ntmps190;go_wp2_with fail;clear hmx;go_loopw [5,10] (fun p i wr=>∃k:Nat,k≤a∧p= .float .f64 (xV k)∧i= .int .i64 (k:Int)∧w=wr) (fun _ i _=>a - (intOf i).toNat);case atStart=>exact⟨0,Nat.zero_le _,rfl,rfl,rfl⟩
 case round=>
  obtain⟨k,hk,rfl,rfl,rfl⟩:=hrel;by_cases bC:k < a
  ·have VE:=HT.out k bC;go_wp2_with fail;go_roundw;case rel=>exact⟨k+1,by omega,rfl,by go_num,trivial⟩
   case measure=>simp[intOf];omega
  ·obtain rfl:k=a:=by omega
   have qm:=QM.out;have qd:=QD.out;clear QM QD HT HM ha;by_cases ahH:m < 0
   ·have HR:=hid (HR2.out ahH);have hd:decide (m < 0)=true:=by simpa using ahH
    clear SD HR2;go_wp2_with fail;go_ret;exact⟨hY (by rw[HR.out];rfl),rfl⟩
   ·have HR:=hid (SD.out (by omega));have hd:decide (m < 0)=false:=by simpa using ahH
    clear SD HR2;go_wp2_with fail;go_ret;exact⟨hY (by rw[HR.out];rfl),rfl⟩
def Row (w:World) (g:Nat) (t:TypeId) (arr:Array Value):Prop:=w.heap[g]? =some (.cells arr t (0,0))
theorem Row.lt {w:World} {g:Nat} {t:TypeId} {arr:Array Value} (h:Row w g t arr):g < w.heap.size:=(Array.getElem?_eq_some_iff.1 h).1
theorem Row.below {w w':World} {g:Nat} {t:TypeId} {arr:Array Value} (h:Row w g t arr) (hb:Below w.heap.size w w'):Row w' g t arr:=(hb.block g h.lt).trans h
theorem Row.keep {w w':World} {g k:Nat} {t:TypeId} {arr:Array Value} (h:Row w g t arr) (hb:Below k w w') (hg:g < k):Row w' g t arr:=(hb.block g hg).trans h
theorem Row.new (w:World) (t:TypeId) (arr:Array Value):Row (w.alloc (.cells arr t)) w.heap.size t arr:=by unfold Row World.alloc;simp
theorem Row.cell {w:World} {g:Nat} {t:TypeId} {arr:Array Value} (h:Row w g t arr) {i:Nat} {v:Value} (hi:arr[i]? =some v):w.cell? ⟨g,i,none⟩=some v:=by have h':w.heap[g]? =some (.cells arr t (0,0)):=h;simp[World.cell?,h',hi]
theorem Row.frozen {w:World} {g:Nat} {t:TypeId} {arr:Array Value} (h:Row w g t arr) (i:Nat):w.frozen? ⟨g,i,none⟩=false:=by have h':w.heap[g]? =some (.cells arr t (0,0)):=h;simp[World.frozen?,h']
def mZ (g:Nat) (w w':World):Prop:=Below g w w'∧w'.heap.size=w.heap.size∧∀b,b≠g→w'.heap[b]? =w.heap[b]?
theorem Row.other {w w':World} {g g':Nat} {t:TypeId} {arr:Array Value} (h:Row w g t arr) (hk:mZ g' w w') (eG:g≠g'):Row w' g t arr:=(hk.2.2 g eG).trans h
theorem Br (w:World) (g:Nat) (t:TypeId) (arr:Array Value) (i:Nat) (v:Value) (h:Row w g t arr) (hi:i < arr.size):Row (w.setCell ⟨g,i,none⟩ v) g t (arr.setIfInBounds i v)∧mZ g w (w.setCell ⟨g,i,none⟩ v):=by
 have h':w.heap[g]? =some (.cells arr t (0,0)):=h;have bC:=h.lt;have hb:∀b,b≠g→(w.setCell ⟨g,i,none⟩ v).heap[b]? =w.heap[b]? :=by intro b hb;simp[World.setCell,Array.getElem?_modify,Ne.symm hb]
 have iW:(w.setCell ⟨g,i,none⟩ v).heap.size=w.heap.size:=by simp[World.setCell]
 refine⟨?_,⟨?_,?_,?_,by omega,fun k hk=>hb k (by omega)⟩,iW,hb⟩;·unfold Row;simp[World.setCell,Array.getElem?_modify,h']
 all_goals simp[World.setCell]
def putAt (arr:Array Value) (i:Nat) (cs:Array Value):Array Value:=(arr.toList.take i++(cs.toList++arr.toList.drop (i+cs.size))).toArray
theorem IS (arr:Array Value) (i:Nat) (v:Value) (r:List Value) (h:i+(r.length+1)≤arr.size):putAt (arr.setIfInBounds i v) (i+1) r.toArray=putAt arr i (v::r).toArray:=by
 unfold putAt;congr 1;simp only[Array.toList_setIfInBounds,List.size_toArray,List.length_cons];have hi:i < arr.toList.length:=by simp;omega
 have h1:(arr.toList.set i v).take (i+1)=arr.toList.take i++[v]:=by rw[List.take_succ_eq_append_getElem (by simpa using hi)];simp[List.take_set_of_le]
 have h2:(arr.toList.set i v).drop (i+1+r.length)=arr.toList.drop (i+(r.length+1)):=by rw[List.drop_set_of_lt (by omega)];congr 1;omega
 rw[h1,h2];simp
theorem zZ (g:Nat) (t:TypeId):∀(vs:List Value) (w:World) (arr:Array Value) (i:Nat),Row w g t arr→i+vs.length≤arr.size→Row (w.setCells g i vs) g t (putAt arr i vs.toArray)∧mZ g w (w.setCells g i vs):=by
 intro vs;induction vs with
 |nil=>
  intro w arr i h _;refine⟨?_,Below.refl _ _,rfl,fun _ _=>rfl⟩;have:putAt arr i [].toArray=arr:=by simp[putAt]
  rw[this];exact h
 |cons v r ih=>intro w arr i h hi;rw[List.length_cons] at hi;obtain⟨h1,h2⟩:=Br w g t arr i v h (by omega);obtain⟨h3,h4⟩:=ih (w.setCell ⟨g,i,none⟩ v) (arr.setIfInBounds i v) (i+1) h1 (by simp;omega);rw[IS arr i v r (by omega)] at h3;exact⟨h3,h2.1.trans h4.1,h4.2.1.trans h2.2.1,fun b hb=>(h4.2.2 b hb).trans (h2.2.2 b hb)⟩
theorem Lk {v:Value} (h:v.oneCell'=true):v.cells= #[v]:=by cases v<;>simp_all [Value.cells,Value.oneCell']
section
variable {P:Program} {ops:Array Oper} {rest:List Oper} {o:Oper} {a:Act} {Q:Exit→Act→World→Prop} {w:World}
theorem dS (tK:o.guard=none) (ty:TypeId) (x y:Operand) (ho:o.op= .store ty x y) (g i:Nat) (v:Value) (hx:a.eval x= .pointer (some ⟨g,i,none⟩)) (hy:a.eval y=v) (h1:v.oneCell'=true)
 {t:TypeId} {arr:Array Value} (hR:Row w g t arr) (Rk:Nat.blt i arr.size=true) (iW:(P.info? ty).map (·.size)=some 1)
 (h:∀w',Row w' g t (arr.setIfInBounds i v)→mZ g w w'→wpList P ops Q rest (a.put o.dst undef) w'):wpList P ops Q (o::rest) a w:=by
 have hi:i < arr.size:=by simpa using Rk
 refine wpList_plain tK fun K hK=>?_;obtain⟨r1,r2⟩:=Br w g t arr i v hR hi;have hc:w.cell? ⟨g,i,none⟩=some arr[i]:=hR.cell (Array.getElem?_eq_getElem hi);have hz:=hR.frozen i;have uV:=run_storeCells_cells (P:=P) g i [v] 0 w (fun j hj=>by simp at hj;subst hj;simp[hc]) (fun j hj=>by simp at hj;subst hj;simpa using hz) (fun u hu=>by simp at hu;subst hu;exact h1);have tH:(storeVar ty ⟨g,i,none⟩ v).run P w= .ok () (w.setCell ⟨g,i,none⟩ v):=by
  cases hq:P.info? ty with
  |none=>simp[hq] at iW
  |some f=>
   have hs:f.size=1:=by simpa[hq] using iW
   simp only[Nat.add_zero] at uV;simp[storeVar,sizeOf,typeInfo,hq,Lk h1,hs,uV,World.setCells]
 unfold Oper.wp execOp;simp only[ho,hx,hy,Instr.storeAt,Instr.sureAddr,Sem.run_bind,Sem.run_pure,Result.andThen_ok,tH];exact hK _ _ (h _ r1 r2)
theorem eV (tK:o.guard=none) (ty:TypeId) (x y:Operand) (ho:o.op= .store ty x y) (g i:Nat) (cs:Array Value) (hx:a.eval x= .pointer (some ⟨g,i,none⟩)) (hy:a.eval y= .agg cs)
 {t:TypeId} {arr:Array Value} (hR:Row w g t arr) (Rk:Nat.ble (i+cs.size) arr.size=true) (iW:(P.info? ty).map (·.size)=some cs.size) (h1:cs.all (·.oneCell')=true)
 (h:∀w',Row w' g t (putAt arr i cs)→mZ g w w'→wpList P ops Q rest (a.put o.dst undef) w'):wpList P ops Q (o::rest) a w:=by
 have hi:i+cs.size≤arr.size:=by simpa using Rk
 obtain⟨r1,r2⟩:=zZ g t cs.toList w arr i hR (by simpa using hi);refine wpList_store_mid tK ty x y ho g i cs hx hy (fun j hj=>⟨?_,hR.frozen _⟩) iW h1 (h _ (by simpa using r1) r2);rw[hR.cell (Array.getElem?_eq_getElem (show i+j < arr.size by omega))];rfl
theorem MI (tK:o.guard=none) (ty:TypeId) (x:Operand) (ho:o.op= .load ty x) (g i:Nat) (hx:a.eval x= .pointer (some ⟨g,i,none⟩)) {t:TypeId} {arr:Array Value} (hR:Row w g t arr) (v:Value) (hv:arr[i]? =some v)
 (hl:∀W:World,W.cell? ⟨g,i,none⟩=some v→(loadVar ty ⟨g,i,none⟩).run P W= .ok v W)
 (h:wpList P ops Q rest (a.put o.dst v) w):wpList P ops Q (o::rest) a w:=by
 refine wpList_plain tK fun K hK=>?_;unfold Oper.wp execOp;simp only[ho,hx,Instr.loadAt,Instr.sureAddr,Sem.run_bind,Sem.run_pure,Result.andThen_ok,hl w (hR.cell hv)];exact hK _ _ h
theorem fO (tK:o.guard=none) (ty:TypeId) (x:Operand) (ho:o.op= .load ty x) (g i:Nat) (hx:a.eval x= .pointer (some ⟨g,i,none⟩)) {t:TypeId} {arr:Array Value} (hR:Row w g t arr) (cs:List Value) (AB:(arr.toList.drop i).take cs.length=cs) (d:TypeDesc)
 (hu:P.underlying ty=some d) (hd:d.isRow=true) (hi:(P.info? ty).map (·.size)=some cs.length)
 (h:wpList P ops Q rest (a.put o.dst (.agg cs.toArray)) w):wpList P ops Q (o::rest) a w:=by
 refine wpList_load_mid tK ty x ho g i hx cs d (fun j v hv=>?_) hu hd hi h;refine hR.cell ?_;have hj:j < cs.length:=(List.getElem?_eq_some_iff.1 hv).1;have Vf:((arr.toList.drop i).take cs.length)[j]? =some v:=by rw[AB];exact hv
 rw[List.getElem?_take_of_lt hj,List.getElem?_drop] at Vf;simpa using Vf
theorem qS (tK:o.guard=none) (ty:TypeId) (x:Operand) (ho:o.op= .load ty x) (g:Nat) (hx:a.eval x= .pointer (some ⟨g,0,none⟩)) {t:TypeId} {arr:Array Value} (hR:Row w g t arr) (d:TypeDesc)
 (hu:P.underlying ty=some d) (hd:d.isRow=true) (hi:(P.info? ty).map (·.size)=some arr.size)
 (h:wpList P ops Q rest (a.put o.dst (.agg arr)) w):wpList P ops Q (o::rest) a w:=
 wpList_load_row tK ty x ho g hx t arr (0,0) d hR hu (by cases d<;>simp_all) hi h
theorem nH (tK:o.guard=none) (ty:TypeId) (x y:Operand) (ho:o.op= .store ty x y) (g:Nat) (cs:Array Value) (hx:a.eval x= .pointer (some ⟨g,0,none⟩)) (hy:a.eval y= .agg cs)
 {t:TypeId} {arr:Array Value} (hR:Row w g t arr) (Rk:Nat.beq cs.size arr.size=true) (iW:(P.info? ty).map (·.size)=some cs.size) (h1:cs.all (·.oneCell')=true)
 (h:∀w',Row w' g t cs→mZ g w w'→wpList P ops Q rest (a.put o.dst undef) w'):wpList P ops Q (o::rest) a w:=by
 have hi:cs.size=arr.size:=by simpa using Rk
 refine eV tK ty x y ho g 0 cs hx hy hR (by simp[hi]) iW h1 fun w' h2 h3=>h w' ?_ h3;have:putAt arr 0 cs=cs:=by unfold putAt;rw[Nat.zero_add,hi,List.take_zero,List.drop_of_length_le (by simp)];simp
 rwa[this] at h2
theorem Kn (d:Tmp) (akK:o.dst=some d) (tK:o.guard=none) (ty:TypeId) (ho:o.op= .alloc ty) (z:Array Value)
 (hz:∀uY,(Instr.alloc ty true uY).run P w= .ok (.pointer (some ⟨w.heap.size,0,none⟩)) (w.alloc (.cells z ty)))
 (h:∀g w',Row w' g ty z→Hid (g=w.heap.size∧Below w.heap.size w w'∧w'.heap.size=g+1)→wpList P ops Q rest (a.put o.dst (.pointer (some ⟨g,0,none⟩))) w'):wpList P ops Q (o::rest) a w:=by
 refine wpList_plain tK fun K' Gt=>?_;unfold Oper.wp;simp[execOp,ho,hz,Result.andThen];exact Gt _ _ (h _ _ (Row.new _ _ _) (hid ⟨rfl,(Below.refl _ _).alloc (Nat.le_refl _) _,by simp⟩))
theorem Pp (d:Tmp) (akK:o.dst=some d) (tK:o.guard=none) (ty:TypeId) (x:Operand) (ho:o.op= .box ty x) (arr:Array Value) (hx:a.eval x= .agg arr)
 (h:∀g w',Row w' g ty arr→Hid (g=w.heap.size∧Below w.heap.size w w'∧w'.heap.size=g+1)→wpList P ops Q rest (a.put o.dst (.pointer (some ⟨g,0,none⟩))) w'):wpList P ops Q (o::rest) a w:=by
 refine wpList_plain tK fun K' Gt=>?_;have hr:(Instr.box ty (.agg arr)).run P w= .ok (.pointer (some ⟨w.heap.size,0,none⟩)) (w.alloc (.cells arr ty)):=by simp[Instr.box,newVar,newRow,go_sem,Value.cells]
 unfold Oper.wp;simp[execOp,ho,hx,hr,Result.andThen];exact Gt _ _ (h _ _ (Row.new _ _ _) (hid ⟨rfl,(Below.refl _ _).alloc (Nat.le_refl _) _,by simp⟩))
end
theorem bK {f:Func} {p:Tmp} {ty:TypeId} (hr:f.results= #[.cell p ty]) {a:Act} {w:World} {g:Nat} {t:TypeId} {arr:Array Value} {d:TypeDesc} {R:Ending→World→Prop} (hp:a.tmps.getD p undef= .pointer (some ⟨g,0,none⟩)) (hR:Row w g t arr)
 (hu:Tryz.prog.underlying ty=some d) (hd:d.isRow=true) (hi:(Tryz.prog.info? ty).map (·.size)=some arr.size) (hdf:a.defers=[]) (h:R (.returned (.agg arr)) w):bodyPost Tryz.prog f R .ret a w:=by
 have hq:=results_cell_row (P:=Tryz.prog) hr a.tmps w g t arr (0,0) d hp hR hu (by cases d<;>simp_all) hi;exact bodyPost_ret hq hdf h
def Rw (P:Program) (ty n:Nat):Prop:=∃d,P.underlying ty=some d∧d.isRow=true∧(P.info? ty).map (·.size)=some n
section
variable {P:Program} {ops:Array Oper} {o:Oper} {rest:List Oper} {a:Act} {Q:Exit→Act→World→Prop} {w w0:World} {d:Tmp} {ty:TypeId} {x y:Operand} {g:Nat} {t:TypeId} {arr:Array Value}
theorem jH (k:(o.guard,o.op,o.dst)=(none,.box ty x,some d)) (hx:a.eval x= .agg arr) (h:∀g w',Row w' g ty arr→Hid (g=w.heap.size∧Below w.heap.size w w'∧w'.heap.size=g+1)→wpList P ops Q rest (a.put o.dst (.pointer (some ⟨g,0,none⟩))) w'):wpList P ops Q (o::rest) a w:=by simp only[Prod.mk.injEq] at k;exact Pp d k.2.2 k.1 ty x k.2.1 arr hx h
theorem eX {z:Array Value} (k:(o.guard,o.op,o.dst)=(none,.alloc ty,some d)) (hz:∀uY,(Instr.alloc ty true uY).run P w= .ok (.pointer (some ⟨w.heap.size,0,none⟩)) (w.alloc (.cells z ty))) (h:∀g w',Row w' g ty z→Hid (g=w.heap.size∧Below w.heap.size w w'∧w'.heap.size=g+1)→wpList P ops Q rest (a.put o.dst (.pointer (some ⟨g,0,none⟩))) w'):wpList P ops Q (o::rest) a w:=by simp only[Prod.mk.injEq] at k;exact Kn d k.2.2 k.1 ty k.2.1 z hz h
theorem lV {cs:Array Value} (k0:(o.guard,o.op)=(none,.store ty x y)) (hR:Row w g t arr) (c:(a.eval x,a.eval y,Nat.beq cs.size arr.size)=(.pointer (some ⟨g,0,none⟩),.agg cs,true)) (k:((P.info? ty).map (·.size),cs.all (·.oneCell'))=(some cs.size,true)) (h:∀w',Row w' g t cs→mZ g w w'→wpList P ops Q rest (a.put o.dst undef) w'):wpList P ops Q (o::rest) a w:=by simp only[Prod.mk.injEq] at c k k0;exact nH k0.1 ty x y k0.2 g cs c.1 c.2.1 hR c.2.2 k.1 k.2 h
theorem oU (i:Nat) {v:Value} (k0:(o.guard,o.op)=(none,.store ty x y)) (hR:Row w g t arr) (c:(a.eval x,a.eval y,v.oneCell',Nat.blt i arr.size)=(.pointer (some ⟨g,i,none⟩),v,true,true)) (s:(P.info? ty).map (·.size)=some 1) (h:∀w',Row w' g t (arr.setIfInBounds i v)→mZ g w w'→wpList P ops Q rest (a.put o.dst undef) w'):wpList P ops Q (o::rest) a w:=by simp only[Prod.mk.injEq] at c k0;exact dS k0.1 ty x y k0.2 g i v c.1 c.2.1 c.2.2.1 hR c.2.2.2 s h
theorem eC (i:Nat) (k0:(o.guard,o.op)=(none,.load ty x)) (hR:Row w g t arr) (v:Value) (hx:a.eval x= .pointer (some ⟨g,i,none⟩)) (hv:arr[i]? =some v) (hl:∀W:World,W.cell? ⟨g,i,none⟩=some v→(loadVar ty ⟨g,i,none⟩).run P W= .ok v W) (h:wpList P ops Q rest (a.put o.dst v) w):wpList P ops Q (o::rest) a w:=by simp only[Prod.mk.injEq] at k0;exact MI k0.1 ty x k0.2 g i hx hR v hv hl h
theorem fF {n:Nat} (k0:(o.guard,o.op)=(none,.load ty x)) (hR:Row w g t arr) (r:Rw P ty n) (hz:arr.size=n) (hx:a.eval x= .pointer (some ⟨g,0,none⟩)) (h:wpList P ops Q rest (a.put o.dst (.agg arr)) w):wpList P ops Q (o::rest) a w:=by obtain⟨d,h1,h2,h3⟩:=r;simp only[Prod.mk.injEq] at k0;exact qS k0.1 ty x k0.2 g hx hR d h1 h2 (by rw[hz];exact h3) h
theorem fU {g g':Nat} {t:TypeId} {arr:Array Value} {p:Prop} (h:Row w g t arr) (k:Hid (g'=w.heap.size∧p)):g < g':=by rw[k.out.1];exact h.lt
theorem jV {g n:Nat} {w1:World} {p:Prop} (h:Hid (Below n w1 w)) (k:Hid (g=w.heap.size∧p)):w1.heap.size≤g:=by rw[k.out.1];exact h.out.size
end
theorem R24:Rw Tryz.prog 24 4:=⟨_,Tryz.underlying24,rfl,by kernel_rfl⟩
theorem R30:Rw Tryz.prog 30 8:=⟨_,Tryz.underlying30,rfl,by kernel_rfl⟩
theorem R32:Rw Tryz.prog 32 11:=⟨_,Tryz.underlying32,rfl,by kernel_rfl⟩
theorem jQ:Rw Tryz.prog 34 23:=⟨_,Tryz.underlying34,rfl,by kernel_rfl⟩
theorem R38:Rw Tryz.prog 38 3:=⟨_,Tryz.underlying38,rfl,by kernel_rfl⟩
theorem R43:Rw Tryz.prog 43 2:=⟨_,Tryz.underlying43,rfl,by kernel_rfl⟩
theorem R52:Rw Tryz.prog 52 25:=⟨_,Tryz.underlying52,rfl,by kernel_rfl⟩
theorem CP:Rw Tryz.prog 76 7:=⟨_,Tryz.underlying76,rfl,by kernel_rfl⟩
theorem R86:Rw Tryz.prog 86 3:=⟨_,Tryz.underlying86,rfl,by kernel_rfl⟩
theorem Uy:Rw Tryz.prog 92 8:=⟨_,Tryz.underlying92,rfl,by kernel_rfl⟩
theorem akL:Rw Tryz.prog 166 15:=⟨_,Tryz.underlying166,rfl,by kernel_rfl⟩
theorem I3:(Tryz.prog.info? 3).map (·.size)=some 1:=by kernel_rfl
theorem I4:(Tryz.prog.info? 4).map (·.size)=some 1:=by kernel_rfl
theorem I9:(Tryz.prog.info? 9).map (·.size)=some 1:=by kernel_rfl
theorem I22:(Tryz.prog.info? 22).map (·.size)=some 1:=by kernel_rfl
theorem I41:(Tryz.prog.info? 41).map (·.size)=some 1:=by kernel_rfl
theorem I90:(Tryz.prog.info? 90).map (·.size)=some 1:=by kernel_rfl
theorem L3 {g i:Nat} {v:Value} (W:World) (hc:W.cell? ⟨g,i,none⟩=some v):(loadVar 3 ⟨g,i,none⟩).run Tryz.prog W= .ok v W:=by simp[loadVar,go_sem,hc]
theorem L4 {g i:Nat} {v:Value} (W:World) (hc:W.cell? ⟨g,i,none⟩=some v):(loadVar 4 ⟨g,i,none⟩).run Tryz.prog W= .ok v W:=by simp[loadVar,go_sem,hc]
theorem L9 {g i:Nat} {v:Value} (W:World) (hc:W.cell? ⟨g,i,none⟩=some v):(loadVar 9 ⟨g,i,none⟩).run Tryz.prog W= .ok v W:=by simp[loadVar,go_sem,hc]
theorem NG {g i:Nat} {v:Value} (W:World) (hc:W.cell? ⟨g,i,none⟩=some v):(loadVar 22 ⟨g,i,none⟩).run Tryz.prog W= .ok v W:=by simp[loadVar,go_sem,hc]
theorem L41 {g i:Nat} {v:Value} (W:World) (hc:W.cell? ⟨g,i,none⟩=some v):(loadVar 41 ⟨g,i,none⟩).run Tryz.prog W= .ok v W:=by simp[loadVar,go_sem,hc]
theorem At (f:UInt8→Bool) (c:UInt8) (t:List UInt8):bS f (c::t)=if f c&&(bS f t).isEmpty then[] else c::bS f t:=by
 unfold bS;rw[List.reverse_cons,List.dropWhile_append];cases h:(t.reverse.dropWhile f).isEmpty with
 |true=>have h':t.reverse.dropWhile f=[]:=List.isEmpty_iff.1 h;rw[h'];cases hf:f c<;>simp[hf]
 |false=>
  have h2:(t.reverse.dropWhile f).reverse.isEmpty=false:=by simpa using h
  rw[h2];simp
theorem Wi (f:UInt8→Bool) (l:List UInt8):(bS f l).dropWhile f=cE f l:=by
 show _=bS f (l.dropWhile f);induction l with
 |nil=>rfl
 |cons c t ih=>
  cases hf:f c with
  |true=>
   rw[List.dropWhile_cons_of_pos hf,←ih,At,hf,Bool.true_and];split;·rename_i h;rw[List.isEmpty_iff.1 h]
   ·rw[List.dropWhile_cons_of_pos hf]
  |false=>rw[List.dropWhile_cons_of_neg (by simp[hf]),At,hf];simp[hf]
theorem Pq:(fun c:UInt8=>([9,10,13,32]:List UInt8).contains c)=lQ:=by funext c;rw[Bool.eq_iff_iff];simp[lQ,or_assoc]
theorem DM:∀(j:Nat) (b:UInt8),(aA [9,10,13,32]).data.toList[j]? =some b→b.toNat < 128:=by intro j b h;rw[aC] at h;have:=List.mem_of_getElem? h;simp at this;rcases this with rfl|rfl|rfl|rfl<;>decide
theorem Uz:(Tryz.prog.info? 143).map (fun i=>(i.zero,i.size))=some (some (.agg (Array.replicate 256 (.bool false))),256):=by kernel_rfl
theorem Wj (s:List UInt8) (hs:s.length≤4000000000) (w:World):Calls Tryz.prog 148 #[.string (aA s),.string (aA [9,10,13,32])] w fun e w'=>e= .returned (.string (aA (cE lQ s)))∧Below w.heap.size w w':=by
 refine(Any.strings_Trim_laid Tryz.acD Uz (aA s) (aA [9,10,13,32]) w (by rw[aD];omega) (by rw[aD];decide) DM).mono ?_;rintro e w' ⟨rfl,hb⟩;refine⟨?_,hb⟩;have h:Lib.trimS (aA s).data.toList (aA [9,10,13,32]).data.toList=cE lQ s:=by rw[aC,aC];unfold Lib.trimS Lib.trimLeftS Lib.trimRightS;rw[Pq];exact Wi lQ s
 rw[h];rfl
theorem IT (s:List UInt8) (hs:s.length≤4000000000) (w:World):Calls Tryz.prog 72 #[.string (aA s),.string (aA [9,10,13,32])] w fun e w'=>e= .returned (.string (aA (bS lQ s)))∧Below w.heap.size w w':=by
 refine(Any.strings_TrimRight_laid Tryz.Uo Uz (aA s) (aA [9,10,13,32]) w (by rw[aD];omega) (by rw[aD];decide) DM).mono ?_;rintro e w' ⟨rfl,hb⟩;refine⟨?_,hb⟩;have h:Lib.trimRightS (aA s).data.toList (aA [9,10,13,32]).data.toList=bS lQ s:=by rw[aC,aC];unfold Lib.trimRightS;rw[Pq];rfl
 rw[h];rfl
theorem Bs (s:List UInt8) (c:UInt8) (hc:c.toNat < 128) (hs:s.length≤4000000000) (w:World):Calls Tryz.prog 72 #[.string (aA s),.string (aA [c])] w fun e w'=>e= .returned (.string (aA (bS (· ==c) s)))∧w=w':=by refine(Tryz.strings_TrimRight_one (aA s) c hc w (by rw[aD];omega)).mono ?_;rintro e w' ⟨rfl,rfl⟩;rw[aC];exact⟨rfl,rfl⟩
theorem Ko (s:List UInt8) (c:UInt8) (hc:c.toNat < 128) (w:World):Calls Tryz.prog 77 #[.string (aA s),.string (aA [c])] w fun e w'=>e= .returned (.string (aA (s.dropWhile (· ==c))))∧w=w':=by refine(Tryz.strings_TrimLeft_one (aA s) c hc w).mono ?_;rintro e w' ⟨rfl,rfl⟩;rw[aC];exact⟨rfl,rfl⟩
theorem MJ (s p:List UInt8):Lib.hasSuffix s p=p.isSuffixOf s:=rfl
theorem xD (s p:List UInt8) (hs:s.length≤4000000000) (w:World):Calls Tryz.prog 66 #[.string (aA s),.string (aA p)] w fun e w'=>e= .returned (.bool (p.isSuffixOf s))∧w=w':=by refine(Tryz.strings_HasSuffix (aA s) (aA p) w (by rw[aD];omega)).mono ?_;rintro e w' ⟨rfl,rfl⟩;exact⟨by rw[aC,aC,MJ],rfl⟩
theorem MK (L:List (List UInt8)) (x:List UInt8):Lib.containsS (L.map aA) (aA x)=L.contains x:=by rw[Bool.eq_iff_iff,Lib.containsS_iff,List.contains_iff_mem,List.mem_map];exact⟨fun⟨y,h1,h2⟩=>Yc h2▸h1,fun h=>⟨x,h,rfl⟩⟩
theorem DN (v:Value) (L:List (List UInt8)) (x:List UInt8) (w:World) (hv:bT w v (L.map aA)) (hL:L.length≤1000000000):Calls Tryz.prog 102 #[v,.string (aA x)] w fun e w'=>e= .returned (.bool (L.contains x))∧w=w':=by
 obtain⟨A,c,rfl,hc⟩:=hv.len;by_cases h0:(L.map aA).length=0
 ·have hl0:L=[]:=by rw[List.length_map] at h0;exact List.length_eq_zero_iff.1 h0
  subst hl0;refine(Tryz.slices_Contains_string_empty A c (aA x) w).mono ?_;rintro e w' ⟨rfl,rfl⟩;exact⟨rfl,rfl⟩
 ·obtain⟨g,off,rfl,c1⟩:=hv.cells (by omega);refine(Tryz.slices_Contains_string g off (L.map aA).length c (L.map aA) (aA x) w (Nat.le_refl _) (by rw[List.length_map];omega) c1).mono ?_;rintro e w' ⟨rfl,rfl⟩;exact⟨by rw[List.take_length,MK],rfl⟩
theorem DO (q:UInt8) (s:List UInt8):(bM q s).1.length≤s.length∧(bM q s).2.1.length≤s.length:=by
 have:=sO q s;refine⟨by omega,?_⟩;unfold bM;split;·simp only[List.length_drop];have:=bW (· !=q) s;omega
 ·simp
theorem mZ.rf (g:Nat) (w:World):mZ g w w:=⟨Below.refl _ _,rfl,fun _ _=>rfl⟩
theorem mZ.tr {g:Nat} {w w' yT:World} (h:mZ g w w') (k:mZ g w' yT):mZ g w yT:=⟨h.1.trans k.1,k.2.1.trans h.2.1,fun b hb=>(k.2.2 b hb).trans (h.2.2 b hb)⟩
theorem nN {a b:ByteArray} (h:a=b):Ending.returned (.string a)= .returned (.string b):=by rw[h]
section
variable {f:UInt8→Bool} {l:List UInt8} {i k:Nat}
theorem BY {c:UInt8} (h:i≤k) (hk:k < l.length) (hd:l.drop k=c::l.drop (k+1)) (hf:f c=true) (hF:(l.drop i).takeWhile f=(l.drop i).take (k - i)++(l.drop k).takeWhile f):
 (l.drop i).takeWhile f=(l.drop i).take (k+1 - i)++(l.drop (k+1)).takeWhile f:=by
 rw[hF,hd,List.takeWhile_cons,if_pos hf];have e:(l.drop i).take (k+1 - i)=(l.drop i).take (k - i)++[c]:=by
  have bC:k - i < (l.drop i).length:=by rw[List.length_drop];omega
  rw[show k+1 - i=(k - i)+1 by omega,List.take_succ_eq_append_getElem bC];congr 2;rw[List.getElem_drop];have h0:(l.drop k)[0]? =some c:=by rw[hd];rfl
  rw[List.getElem?_drop,List.getElem?_eq_getElem (by omega)] at h0;have:=Option.some.inj h0;simp only[Nat.add_zero] at this;rw[←this];congr 1;omega
 rw[e];simp
theorem yH (h:i≤k) (hk:k≤l.length) (hF:(l.drop i).takeWhile f=(l.drop i).take (k - i)++(l.drop k).takeWhile f) (hs:(l.drop k).takeWhile f=[]):
 (aA l).extract i k=aA ((l.drop i).takeWhile f)∧i+((l.drop i).takeWhile f).length=k:=by
 rw[hs,List.append_nil] at hF;refine⟨by rw[AW,hF],?_⟩;rw[hF,List.length_take,List.length_drop];omega
end
theorem akM (c:UInt8) (w:World):Calls Tryz.prog 70 #[.int .u8 (c.toNat:Int)] w fun e w'=>e= .returned (.bool (c==44||aI c))∧w=w':=by
 have HC:=hid (mF c w);have h0:(c==44)=((c.toNat:Int)==44):=by rw[Bool.eq_iff_iff];simp only[beq_iff_eq];rw[←UInt8.toNat_inj];simp;omega
 cases hc:((c.toNat:Int)==44) with
 |true=>rw[h0,hc];clear h0 HC;go_enter Tryz.func70,Tryz.ntmps70;go_wp2_with fail;go_ret;exact⟨rfl,rfl⟩
 |false=>rw[h0,hc,Bool.false_or];generalize aI c=b at*;clear h0;go_enter Tryz.func70,Tryz.ntmps70;go_wp2_with fail;refine(HC.out).mono ?_;rintro e w' ⟨rfl,rfl⟩;go_wp2_with fail;go_ret;exact⟨rfl,rfl⟩
theorem akN (c:UInt8) (w:World):Calls Tryz.prog 71 #[.int .u8 (c.toNat:Int)] w fun e w'=>e= .returned (.bool (!aI c))∧w=w':=by
 have HC:=hid (mF c w);generalize aI c=b at*;cases b;all_goals
  go_enter Tryz.func71,Tryz.ntmps71;go_wp2_with fail;refine(HC.out).mono ?_;rintro e w' ⟨rfl,rfl⟩;go_wp2_with fail;go_ret;exact⟨rfl,rfl⟩
theorem ahI (l:List UInt8) (hl:l.length≤1000000000) (i:Nat) (hi:i≤l.length) (ga gs:Nat) (w:World) (hA:Row w ga 3 #[.int .i64 (i:Int)]) (hS:Row w gs 9 #[.string (aA l)]) (eG:gs≠ga):
 Calls Tryz.prog 69 #[.func (.func 64) #[] #[],.pointer (some ⟨ga,0,none⟩),.pointer (some ⟨gs,0,none⟩)] w fun e w'=>e= .returned (.string (aA ((l.drop i).takeWhile aI)))∧Row w' ga 3 #[.int .i64 ((i+((l.drop i).takeWhile aI).length:Nat):Int)]∧mZ ga w w':=by
 have Oq:=hid (fun c w=>mF c w);have HA:=hid hA;have HS:=hid hS;have rO:=hid eG;have HZ:=hid (aD l);have cA:=hA.cell (i:=0) rfl;have HI:Hid (Hid ((l.drop i).takeWhile aI=(l.drop i).take (i - i)++(l.drop i).takeWhile aI)):=hid (hid (by simp));clear hA hS eG;go_enter Tryz.func69,Tryz.ntmps69;go_wp2_with fail;go_loopg [] (l.length - i) (fun gk wr=>∃k:Nat,gk=l.length - k∧i≤k∧k≤l.length∧Hid (Row wr ga 3 #[.int .i64 (k:Int)])∧Hid (mZ ga w wr)∧Hid ((l.drop i).takeWhile aI=(l.drop i).take (k - i)++(l.drop k).takeWhile aI));case atStart=>exact⟨i,rfl,Nat.le_refl _,hi,HA,hid (mZ.rf _ _),HI.out⟩
 case round=>
  clear cA HI;obtain⟨k,rfl,XK,mE,HR,HE,HF⟩:=hrel;have cA:=HR.out.cell (i:=0) rfl;have cS:=(HS.out.other HE.out rO.out).cell (i:=0) rfl;have MF:k≤(aA l).size:=by rw[HZ.out];exact mE
  by_cases bC:k < l.length
  ·obtain⟨c,hd,hg⟩:=iN bC;have jZ:k < (aA l).size:=by rw[HZ.out];exact bC
   have tM:=hg jZ;have iF:c.toNat < 256:=c.toNat_lt;have C6:=hid (Oq.out c);cases nG:aI c with
   |true=>
    have HN:=hid (BY XK bC hd nG HF.out);rw[nG] at C6;clear hd hg HF nG;go_wp2_with fail;refine(C6.out _).mono ?_;rintro e w' ⟨rfl,rfl⟩;go_wp2_with (refine oU 0 rfl HR.out rfl I3 ?_;intro w1 aH aB;simp[Act.eval] at aH;have SD:=hid aH;have CQ:=hid aB;clear aH aB);go_roundg (l.length - (k+1));case measure=>omega
    case rel=>exact⟨k+1,rfl,by omega,by omega,hid SD.out,hid (HE.out.tr CQ.out),HN⟩
   |false=>have QR:Hid ((l.drop k).takeWhile aI=[]):=hid (by rw[hd];exact List.takeWhile_cons_of_neg (by simp[nG]));rw[nG] at C6;obtain⟨uX,B8⟩:=yH XK mE HF.out QR.out;have HX:=hid uX;have HY:=hid B8;clear uX B8;clear hd hg nG;go_wp2_with fail;refine(C6.out _).mono ?_;rintro e w' ⟨rfl,rfl⟩;go_wp2_with fail;go_ret;exact⟨nN HX.out,by rw[HY.out];exact HR.out,HE.out⟩
  ·have Ec:k=l.length:=by omega
   have Ao:(aA l).size≤k:=by rw[HZ.out];omega
   have QR:Hid ((l.drop k).takeWhile aI=[]):=hid (by rw[Ec,List.drop_length];rfl);obtain⟨uX,B8⟩:=yH XK mE HF.out QR.out;have HX:=hid uX;have HY:=hid B8;clear uX B8;clear Ec bC;go_wp2_with fail;go_ret;exact⟨nN HX.out,by rw[HY.out];exact HR.out,HE.out⟩
theorem ahJ (l:List UInt8) (hl:l.length≤1000000000) (i:Nat) (hi:i≤l.length) (ga gs:Nat) (w:World) (hA:Row w ga 3 #[.int .i64 (i:Int)]) (hS:Row w gs 9 #[.string (aA l)]) (eG:gs≠ga):
 Calls Tryz.prog 69 #[.func (.func 70) #[] #[],.pointer (some ⟨ga,0,none⟩),.pointer (some ⟨gs,0,none⟩)] w fun e w'=>e= .returned (.string (aA ((l.drop i).takeWhile (fun c=>c==44||aI c))))∧Row w' ga 3 #[.int .i64 ((i+((l.drop i).takeWhile (fun c=>c==44||aI c)).length:Nat):Int)]∧mZ ga w w':=by
 have Oq:=hid (fun c w=>akM c w);have HA:=hid hA;have HS:=hid hS;have rO:=hid eG;have HZ:=hid (aD l);have cA:=hA.cell (i:=0) rfl;have HI:Hid (Hid ((l.drop i).takeWhile (fun c=>c==44||aI c)=(l.drop i).take (i - i)++(l.drop i).takeWhile (fun c=>c==44||aI c))):=hid (hid (by simp));clear hA hS eG;go_enter Tryz.func69,Tryz.ntmps69;go_wp2_with fail;go_loopg [] (l.length - i) (fun gk wr=>∃k:Nat,gk=l.length - k∧i≤k∧k≤l.length∧Hid (Row wr ga 3 #[.int .i64 (k:Int)])∧Hid (mZ ga w wr)∧Hid ((l.drop i).takeWhile (fun c=>c==44||aI c)=(l.drop i).take (k - i)++(l.drop k).takeWhile (fun c=>c==44||aI c)));case atStart=>exact⟨i,rfl,Nat.le_refl _,hi,HA,hid (mZ.rf _ _),HI.out⟩
 case round=>
  clear cA HI;obtain⟨k,rfl,XK,mE,HR,HE,HF⟩:=hrel;have cA:=HR.out.cell (i:=0) rfl;have cS:=(HS.out.other HE.out rO.out).cell (i:=0) rfl;have MF:k≤(aA l).size:=by rw[HZ.out];exact mE
  by_cases bC:k < l.length
  ·obtain⟨c,hd,hg⟩:=iN bC;have jZ:k < (aA l).size:=by rw[HZ.out];exact bC
   have tM:=hg jZ;have iF:c.toNat < 256:=c.toNat_lt;have C6:=hid (Oq.out c);cases nG:(c==44||aI c) with
   |true=>
    have HN:=hid (BY XK bC hd nG HF.out);rw[nG] at C6;clear hd hg HF nG;go_wp2_with fail;refine(C6.out _).mono ?_;rintro e w' ⟨rfl,rfl⟩;go_wp2_with (refine oU 0 rfl HR.out rfl I3 ?_;intro w1 aH aB;simp[Act.eval] at aH;have SD:=hid aH;have CQ:=hid aB;clear aH aB);go_roundg (l.length - (k+1));case measure=>omega
    case rel=>exact⟨k+1,rfl,by omega,by omega,hid SD.out,hid (HE.out.tr CQ.out),HN⟩
   |false=>have QR:Hid ((l.drop k).takeWhile (fun c=>c==44||aI c)=[]):=hid (by rw[hd];exact List.takeWhile_cons_of_neg (by simp[nG]));rw[nG] at C6;obtain⟨uX,B8⟩:=yH XK mE HF.out QR.out;have HX:=hid uX;have HY:=hid B8;clear uX B8;clear hd hg nG;go_wp2_with fail;refine(C6.out _).mono ?_;rintro e w' ⟨rfl,rfl⟩;go_wp2_with fail;go_ret;exact⟨nN HX.out,by rw[HY.out];exact HR.out,HE.out⟩
  ·have Ec:k=l.length:=by omega
   have Ao:(aA l).size≤k:=by rw[HZ.out];omega
   have QR:Hid ((l.drop k).takeWhile (fun c=>c==44||aI c)=[]):=hid (by rw[Ec,List.drop_length];rfl);obtain⟨uX,B8⟩:=yH XK mE HF.out QR.out;have HX:=hid uX;have HY:=hid B8;clear uX B8;clear Ec bC;go_wp2_with fail;go_ret;exact⟨nN HX.out,by rw[HY.out];exact HR.out,HE.out⟩
theorem ahK (l:List UInt8) (hl:l.length≤1000000000) (i:Nat) (hi:i≤l.length) (ga gs:Nat) (w:World) (hA:Row w ga 3 #[.int .i64 (i:Int)]) (hS:Row w gs 9 #[.string (aA l)]) (eG:gs≠ga):
 Calls Tryz.prog 69 #[.func (.func 71) #[] #[],.pointer (some ⟨ga,0,none⟩),.pointer (some ⟨gs,0,none⟩)] w fun e w'=>e= .returned (.string (aA ((l.drop i).takeWhile (fun c=> !aI c))))∧Row w' ga 3 #[.int .i64 ((i+((l.drop i).takeWhile (fun c=> !aI c)).length:Nat):Int)]∧mZ ga w w':=by
 have Oq:=hid (fun c w=>akN c w);have HA:=hid hA;have HS:=hid hS;have rO:=hid eG;have HZ:=hid (aD l);have cA:=hA.cell (i:=0) rfl;have HI:Hid (Hid ((l.drop i).takeWhile (fun c=> !aI c)=(l.drop i).take (i - i)++(l.drop i).takeWhile (fun c=> !aI c))):=hid (hid (by simp));clear hA hS eG;go_enter Tryz.func69,Tryz.ntmps69;go_wp2_with fail;go_loopg [] (l.length - i) (fun gk wr=>∃k:Nat,gk=l.length - k∧i≤k∧k≤l.length∧Hid (Row wr ga 3 #[.int .i64 (k:Int)])∧Hid (mZ ga w wr)∧Hid ((l.drop i).takeWhile (fun c=> !aI c)=(l.drop i).take (k - i)++(l.drop k).takeWhile (fun c=> !aI c)));case atStart=>exact⟨i,rfl,Nat.le_refl _,hi,HA,hid (mZ.rf _ _),HI.out⟩
 case round=>
  clear cA HI;obtain⟨k,rfl,XK,mE,HR,HE,HF⟩:=hrel;have cA:=HR.out.cell (i:=0) rfl;have cS:=(HS.out.other HE.out rO.out).cell (i:=0) rfl;have MF:k≤(aA l).size:=by rw[HZ.out];exact mE
  by_cases bC:k < l.length
  ·obtain⟨c,hd,hg⟩:=iN bC;have jZ:k < (aA l).size:=by rw[HZ.out];exact bC
   have tM:=hg jZ;have iF:c.toNat < 256:=c.toNat_lt;have C6:=hid (Oq.out c);cases nG:(!aI c) with
   |true=>
    have HN:=hid (BY XK bC hd nG HF.out);rw[nG] at C6;clear hd hg HF nG;go_wp2_with fail;refine(C6.out _).mono ?_;rintro e w' ⟨rfl,rfl⟩;go_wp2_with (refine oU 0 rfl HR.out rfl I3 ?_;intro w1 aH aB;simp[Act.eval] at aH;have SD:=hid aH;have CQ:=hid aB;clear aH aB);go_roundg (l.length - (k+1));case measure=>omega
    case rel=>exact⟨k+1,rfl,by omega,by omega,hid SD.out,hid (HE.out.tr CQ.out),HN⟩
   |false=>have QR:Hid ((l.drop k).takeWhile (fun c=> !aI c)=[]):=hid (by rw[hd];exact List.takeWhile_cons_of_neg (by simp[nG]));rw[nG] at C6;obtain⟨uX,B8⟩:=yH XK mE HF.out QR.out;have HX:=hid uX;have HY:=hid B8;clear uX B8;clear hd hg nG;go_wp2_with fail;refine(C6.out _).mono ?_;rintro e w' ⟨rfl,rfl⟩;go_wp2_with fail;go_ret;exact⟨nN HX.out,by rw[HY.out];exact HR.out,HE.out⟩
  ·have Ec:k=l.length:=by omega
   have Ao:(aA l).size≤k:=by rw[HZ.out];omega
   have QR:Hid ((l.drop k).takeWhile (fun c=> !aI c)=[]):=hid (by rw[Ec,List.drop_length];rfl);obtain⟨uX,B8⟩:=yH XK mE HF.out QR.out;have HX:=hid uX;have HY:=hid B8;clear uX B8;clear Ec bC;go_wp2_with fail;go_ret;exact⟨nN HX.out,by rw[HY.out];exact HR.out,HE.out⟩
end Go.Proofs.YtmgmclkplepapaaGreatDoor
