/- Part of the proof of TopBoundsUptoCardSaid. Conditions: none beyond the statement. -/
import Derived.Maps.AppendAt
import Derived.Great.BuildSlice
import Derived.Test.YtmgmclkplepapaaGreatDoorPt42
set_option linter.all false
set_option maxRecDepth 100000
set_option maxHeartbeats 64000000
namespace Go.Proofs.YtmgmclkplepapaaGreatDoor
open Go.RowKit
theorem D0 {P:Program} {o:Oper} {a:Act} {w:World} {K:Act→World→Prop} {Q:Exit→Act→World→Prop} (ty:TypeId) (x:Operand) (ho:o.op= .load ty x) (g n:Nat) (hx:a.eval x= .pointer (some ⟨g,0,none⟩)) {t:TypeId} {arr:Array Value} (hR:Row w g t arr) (d:TypeDesc)
 (hu:P.underlying ty=some d) (hd:d.isRow=true) (hz:arr.size=n) (hi:(P.info? ty).map (·.size)=some n) (h:K (a.put o.dst (.agg arr)) w):o.wp P a w K Q:=
 BB ty x ho g 0 hx hR arr.toList (by rw[List.drop_zero];exact List.take_of_length_le (Nat.le_refl _)) d hu hd (by rw[Array.length_toList,hz];exact hi) (by simpa using h)
theorem fX.url {N:Nat→Prop} {w w':World} {arr:Array Value} {u:bD} (h:cT N w arr u) (hk:fX w w'):cT N w' arr u:=h.below hk
theorem Qq {N0:Nat→Prop} {arr:Array Value} {b:bD} {w:World} (hb:cT N0 w arr b) (lA:b.path.length≤10000000) (s:List UInt8) (hs:s.length≤5000000) (hW:Laid w):Calls Tryz.prog 68 #[.agg arr,.string (aA s)] w fun e w'=>RdV (kU J0 b (partsOf s)) w e w':=by
 have HW:=hid hW;have HU:=hid hb;have qX:=hid hb.dH;have oO:=Dj s;have QQ:=hid (fun W=>FO s W (by omega));have CO:=hid (fun W hW=>F2 (qI s) W hW (by omega));have GJ:=hid (fun W (h1:cT N0 W arr b) hW=>Jv h1 lA (Jw hs) (w:=W) hW);have e0:splitN (qI s)=partsOf s:=rfl;rw[e0] at CO;generalize aA (qI s)=s2 at*;generalize kU J0 b (partsOf s)=JO at*;generalize partsOf s=P at*;generalize aA s=s' at*;unfold SO at CO;generalize fK P=pa at*;clear hW hb oO e0 hs lA;have HB:Hid (Below w.heap.size w w):=hid (Below.refl _ _);go_enter Tryz.func68,Tryz.ntmps68;go_wp2_with (first|(refine jH rfl rfl ?_;intro gB w2 aE hN;have Kz:=jV HB hN;replace HB:=aR HB hN.out.2.1;clear hN)|(refine eX rfl (aO _) ?_;intro gA w2 cP hN;have eF:=fU aE hN;have GU:=jV HB hN;replace aE:=aE.below hN.out.2.1;replace HB:=aR HB hN.out.2.1;clear hN));have Hf:=hid cP.lt;apply AZ fX [.val (.agg arr),.val (.string s'),.val (.string s2),.val (.agg pa),.any (fun v W=>∃ar,v= .tuple #[.agg ar,.bool JO.isSome]∧cT (fun x=>x < w2.heap.size) W ar (JO.getD {})),.any (fun v W=>∃ar,v= .agg ar∧cT (fun x=>x < w2.heap.size) W ar (JO.getD {})),.val (.bool JO.isSome)] 7 _ rfl (by kernel_rfl) (by kernel_rfl) (by kernel_rfl) (by kernel_rfl) mM;simp only[List.take_succ_cons,List.take_zero];apply aS.val; ·rfl
 ·intro W hW hF K hK;exact D0 34 _ rfl gB 23 rfl (fX.row aE hW) _ Tryz.underlying34 rfl qX.out.1 (by kernel_rfl) (hK _ (Below.refl _ _))
 simp only[pq];apply aS.val; ·rfl
 ·intro W hW hF K hK;go_simp;exact hK _ (Below.refl _ _)
 simp only[pq];apply aS.val; ·rfl
 ·intro W hW hF K hK;go_simp;go_at_call 30;refine(QQ.out _).mono ?_;rintro e w3 ⟨rfl,dE⟩;exact hK _ dE
 simp only[pq];have HL9:=hid (HW.out.below HB.out HW.out.size);have JV:Hid (∀W,fX w2.drew W→Laid W∧cT N0 W arr b):=hid (fun W hW=>⟨(HL9.out.step (bB _)).step hW,((HU.out.below HB.out).below (bB _)).below hW⟩);apply aS.val; ·rfl
 ·intro W hW hF K hK;go_simp;go_at_call 29;refine(CO.out _ (JV.out _ hW).1).mono ?_;rintro e w3 ⟨rfl,dE⟩;exact hK _ dE
 simp only[pq];apply aS.any;·rfl
 ·rfl
 ·rintro v W W' ⟨ar,rfl,h⟩ hg;exact⟨ar,rfl,h.below hg⟩
 ·intro W hW hF K hK;go_simp;go_at_call 31;refine(GJ.out _ (JV.out _ hW).2 (JV.out _ hW).1).mono ?_;rintro e w3 ⟨dE,ar,rfl,h2⟩;exact hK _ _ dE ⟨ar,rfl,h2.lE fun x hx=>Nat.lt_of_lt_of_le hx hW.size⟩
 intro u10;simp only[pq];apply aS.any;·rfl
 ·rfl
 ·rintro v W W' ⟨ar,rfl,h⟩ hg;exact⟨ar,rfl,h.below hg⟩
 ·intro W hW hF K hK;obtain⟨ar,hv,h2⟩:=hF.1 (by rfl);subst hv;go_simp;exact hK _ _ (Below.refl _ _) ⟨ar,rfl,h2⟩
 intro u11;simp only[pq];apply aS.val; ·rfl
 ·intro W hW hF K hK;obtain⟨ar,hv,h2⟩:=hF.2.1 (by rfl);subst hv;go_simp;exact hK _ (Below.refl _ _)
 simp only[pq];refine aS.nil ?_;intro w8 rB iK;obtain⟨⟨ar,rfl,hu8⟩,⟨ar2,rfl,_⟩,_⟩:=iK;simp only[List.drop_succ_cons,List.drop_zero];have Q0:=hid hu8;have Ha:=hid (HB.out.trans (((bB _).trans (rB.mono (Nat.le_refl _))).mono HB.out.size));replace cP:=fX.row cP rB;have yV:=hid HB.out.size;clear rB hu8 aE;go_wp2_with (refine vS rfl cP Q0.out.dH jQ rfl rfl ?_;intro w1 aH aB;replace Q0:=hid (Q0.out.save (bL.of aB) Hf.out);replace Ha:=bU Ha aB.1 GU;replace cP:=aH;clear aB aH);refine dT rfl 23 _ rfl rfl cP Tryz.underlying34 rfl Q0.out.dH.1 (by kernel_rfl) rfl ?_;exact⟨Ha.out,_,rfl,Q0.out.lE fun x hx=>Nat.lt_of_lt_of_le hx yV.out⟩
theorem bP.kept {N:Nat→Prop} {w w':World} {v:Value} {L:List (List UInt8)} (h:bP N w v L) (hs:w.heap.size≤w'.heap.size) (hk:∀b,¬N b→b < w.heap.size→w'.heap[b]? =w.heap[b]?):bP N w' v L:=by
 rcases h with h|⟨b,off,c,hb,hl,hv,hc,aW⟩;·exact .inl h
 ·refine .inr ⟨b,off,c,hb,Nat.lt_of_lt_of_le hl hs,hv,hc,fun j hj=>?_⟩;have:=aW j hj;unfold World.cell? at this⊢;simp only[hk b hb hl];exact this
theorem bP.Ge {N N':Nat→Prop} {w:World} {v:Value} {L:List (List UInt8)} (h:bP N w v L) (hn:∀x,x < w.heap.size→N' x→N x):bP N' w v L:=by
 rcases h with h|⟨b,off,c,hb,hl,r⟩;·exact .inl h
 ·exact .inr ⟨b,off,c,fun e=>hb (hn b hl e),hl,r⟩
structure qY {α:Type} (F:(Nat→Prop)→World→Array Value→α→Prop) (z:Nat):Prop where
 dH:∀{N w A e},F N w A e→BD z A
 keep:∀{N} {w w':World} {A e},F N w A e→w.heap.size≤w'.heap.size→(∀b,¬N b→b < w.heap.size→w'.heap[b]? =w.heap[b]?)→F N w' A e
 Ge:∀{N N':Nat→Prop} {w:World} {A e},F N w A e→(∀x,x < w.heap.size→N' x→N x)→F N' w A e
theorem Xb {α:Type} {F:(Nat→Prop)→World→Array Value→α→Prop} {z:Nat} (hF:qY F z) {N:Nat→Prop} {w:World}:∀(L:List (Array Value×α)),(∀p∈L,F N w p.1 p.2)→∀(k:Nat) (hk:k < L.length),((L.flatMap (·.1.toList)).drop (k*z)).take z=L[k].1.toList:=by
 intro L;induction L with
 |nil=>intro _ k hk;exact absurd hk (by simp)
 |cons a r ih=>
  intro h k hk;have hz:a.1.toList.length=z:=by rw[Array.length_toList];exact(hF.dH (h a List.mem_cons_self)).1
  rw[List.flatMap_cons];cases k with
  |zero=>rw[Nat.zero_mul,List.drop_zero,List.take_append_of_le_length (by omega),List.take_of_length_le (by omega)];rfl
  |succ k=>rw[Nat.succ_mul,Nat.add_comm (k*z) z,←hz,List.drop_length_add_append,hz];rw[List.getElem_cons_succ];exact ih (fun p hp=>h p (List.mem_cons_of_mem _ hp)) k (by simpa using hk)
section
variable {α:Type} (F:(Nat→Prop)→World→Array Value→α→Prop) (t:TypeId) (z:Nat)
def oX (w:World) (v:Value) (E:List α):Prop:=∃L:List (Array Value×α),L.map (·.2)=E∧(∀p∈L,F (fun _=>False) w p.1 p.2)∧
 ((v= .slice none 0 0∧E=[])∨∃g c cur,v= .slice (some ⟨g,0,none⟩) E.length c∧E.length≤c∧Row w g t cur∧cur.toList.take (E.length*z)=L.flatMap (·.1.toList))
def jG (w:World) (base:Nat) (v:Value) (E:List α):Prop:=∃L:List (Array Value×α),L.map (·.2)=E∧(∀p∈L,F (fun b=>v.ownBlock=some b) w p.1 p.2)∧w.ownsRow base t z v E.length (L.flatMap (·.1.toList))
end
section
variable {α:Type} {F:(Nat→Prop)→World→Array Value→α→Prop} {t:TypeId} {z:Nat} {w w':World} {base:Nat} {v:Value} {E:List α}
theorem oX.nil:oX F t z w (.slice none 0 0) []:=⟨[],rfl,by simp,.inl ⟨rfl,rfl⟩⟩
theorem jG.nil:jG F t z w base (.slice none 0 0) []:=⟨[],rfl,by simp,World.ownsRow_nil w base t z⟩
theorem oX.below (hF:qY F z) (h:oX F t z w v E) (hb:Below w.heap.size w w'):oX F t z w' v E:=by
 obtain⟨L,h1,h2,h3⟩:=h;refine⟨L,h1,fun p hp=>hF.keep (h2 p hp) hb.size fun b _ hl=>hb.block b hl,?_⟩;rcases h3 with h3|⟨g,c,cur,h4,h5,h6,h7⟩;·exact .inl h3
 ·exact .inr ⟨g,c,cur,h4,h5,h6.below hb,h7⟩
theorem jG.read (hF:qY F z) (h:jG F t z w base v E):oX F t z w v E:=by
 obtain⟨L,h1,h2,h3,h4⟩:=h;refine⟨L,h1,fun p hp=>hF.Ge (h2 p hp) fun _ _ e=>e.elim,?_⟩;rcases h4 with⟨h4,h5⟩|⟨g,c,cur,h4,_,h5,h6,_,_,h7⟩;·exact .inl ⟨h4,List.length_eq_zero_iff.1 h5⟩
 ·exact .inr ⟨g,c,cur,h4,h6,h5,h7⟩
theorem jG.mono {base':Nat} (h:jG F t z w base v E) (hb:base'≤base):jG F t z w base' v E:=by
 obtain⟨L,h1,h2,h3,h4⟩:=h;refine⟨L,h1,h2,h3,?_⟩;rcases h4 with h4|⟨g,c,cur,h4,h5,r⟩;·exact .inl h4
 ·exact .inr ⟨g,c,cur,h4,Nat.le_trans hb h5,r⟩
theorem jG.keep (hF:qY F z) (h:jG F t z w base v E) (hs:w.heap.size≤w'.heap.size) (hk:∀b,b < w.heap.size→w'.heap[b]? =w.heap[b]?):jG F t z w' base v E:=by
 obtain⟨L,h1,h2,h3,h4⟩:=h;refine⟨L,h1,fun p hp=>hF.keep (h2 p hp) hs fun b _ hl=>hk b hl,h3,?_⟩;rcases h4 with h4|⟨g,c,cur,h4,h5,h6,r⟩;·exact .inl h4
 ·exact .inr ⟨g,c,cur,h4,h5,(hk g (Array.getElem?_eq_some_iff.1 h6).1).trans h6,r⟩
theorem jG.below (hF:qY F z) (h:jG F t z w base v E) (hb:Below w.heap.size w w'):jG F t z w' base v E:=h.keep hF hb.size fun b hl=>hb.block b hl
theorem oX.len (h:oX F t z w v E):∃a c,v= .slice a E.length c∧E.length≤c:=by
 obtain⟨L,h1,h2,h3⟩:=h;rcases h3 with⟨rfl,rfl⟩|⟨g,c,cur,h4,h5,_⟩;·exact⟨none,0,rfl,Nat.zero_le _⟩
 ·exact⟨_,c,h4,h5⟩
theorem oX.at (hF:qY F z) (h:oX F t z w v E) {k:Nat} (hk:k < E.length):∃g c cur A,v= .slice (some ⟨g,0,none⟩) E.length c∧E.length≤c∧Row w g t cur∧F (fun _=>False) w A E[k]∧(cur.toList.drop (k*z)).take z=A.toList∧BD z A:=by
 obtain⟨L,h1,h2,h3⟩:=h;rcases h3 with⟨_,rfl⟩|⟨g,c,cur,h4,h5,h6,h7⟩;·exact absurd hk (by simp)
 ·have hl:L.length=E.length:=by rw[←h1,List.length_map]
  have hk':k < L.length:=by omega
  have hm:=h2 _ (List.getElem_mem hk');have he:E[k]=L[k].2:=by
   have:E[k]? =(L.map (·.2))[k]? :=by rw[h1]
   rw[List.getElem?_eq_getElem hk,List.getElem?_map,List.getElem?_eq_getElem hk'] at this;simpa using this
  refine⟨g,c,cur,L[k].1,h4,h5,h6,by rw[he];exact hm,?_,hF.dH hm⟩;have hp:=Xb hF L h2 k hk';rw[←h7,List.drop_take,List.take_take] at hp;rw[←hp];congr 1;have:(k+1)*z≤E.length*z:=Nat.mul_le_mul_right _ (by omega);rw[Nat.add_mul,Nat.one_mul] at this;omega
theorem jG.one (hF:qY F z) {A:Array Value} {e:α} (hA:F (fun b=>b=w.heap.size) w A e) (hb:base≤w.heap.size):jG F t z (w.alloc (.cells A t)) base (.slice (some ⟨w.heap.size,0,none⟩) 1 1) [e]:=by
 have hz:=(hF.dH hA).1;refine⟨[(A,e)],rfl,fun p hp=>?_,by simp[hz],.inr ⟨w.heap.size,1,A,rfl,hb,Row.new w t A,Nat.le_refl _,by unfold maxLen;omega,by rw[hz,Nat.one_mul],?_⟩⟩
 ·rw[List.mem_singleton] at hp;subst hp;refine hF.Ge (hF.keep hA (by simp) fun b hn hl=>?_) fun x hx h=>?_;·exact(iS w (.cells A t)).block b hl
  ·simp[Value.ownBlock] at h;exact h.symm
 ·simp[hz];exact List.take_of_length_le (by simp[hz])
theorem No (hF:qY F z) (t2 ty:TypeId) (i:TypeInfo) (zv:Value) (ht:Tryz.prog.underlying t2=some (.slice t)) (hi:Tryz.prog.info? t=some i) (hz:i.zero=some zv) (sS:i.size=z) (hzs:zv.cells.size=z) (iW:0 < z) (tM:i.bytes≤1000)
 (bE:jG F t z w base v E) {gx c:Nat} {A:Array Value} {e:α} (hx:Row w gx t A) (hA:F (fun b=>v.ownBlock=some b) w A e) (hlen:E.length≤1000000000) (kX:base≤w.heap.size):
 ∃v' w',(Builtin.append_ #[t2,t2] ty #[v,.slice (some ⟨gx,0,none⟩) 1 c]).run Tryz.prog w= .ok v' w'∧jG F t z w' base v' (E++[e])∧Below base w w':=by
 obtain⟨L,h1,h2,h3⟩:=bE;have hO:=hF.dH hA;obtain⟨v',w',hr,h4,h5,_,h6⟩:=run_append_own_at (P:=Tryz.prog) w base t2 ty t i zv z i.bytes ht hi hz sS rfl hzs iW v E.length _ h3 ⟨gx,0,none⟩ 1 c A.toList (by rw[Array.length_toList,hO.1,Nat.one_mul])
  (fun j u hu=>by
    rw[CH]
    exact hx.cell (by simpa using hu))
  (fun u hu=>by
    have:=hO.2
    rw[Array.all_eq_true'] at this
    exact this u (by simpa using hu)) (by unfold maxLen;omega) (by
    have:(E.length+1)*i.bytes≤1000000001*1000:=Nat.mul_le_mul (by omega) tM
    omega) kX
 refine⟨v',w',hr,⟨L++[(A,e)],by rw[List.map_append,h1];rfl,fun p hp=>?_,?_⟩,(Below.refl _ _).grown h5 kX fun k hk=>(World.ownsRow.lt h3 k hk).1⟩
 ·have JP:F (fun b=>v.ownBlock=some b) w p.1 p.2:=by
   rcases List.mem_append.1 hp with h|h;·exact h2 p h
   ·rw[List.mem_singleton] at h;subst h;exact hA
  have hp2:F (fun b=>v.ownBlock=some b∨b=w.heap.size) w p.1 p.2:=hF.Ge JP fun x hx h=>h.elim id fun e=>absurd e (by omega);have hp3:F (fun b=>v.ownBlock=some b∨b=w.heap.size) w' p.1 p.2:=hF.keep hp2 h5.size fun b hn hl=>h5.block b hl fun e=>hn (.inl e.symm);refine hF.Ge hp3 fun x _ h=>?_;rcases h6 with h6|h6;·exact .inl (h6▸h)
  ·rw[h6] at h;injection h with h;exact .inr h.symm
 ·rw[List.flatMap_append,List.length_append];simpa using h4
theorem nC {ops:Array Oper} {rest:List Oper} {o:Oper} {a:Act} {Q:Exit→Act→World→Prop} (tK:o.guard=none) (s x:Operand) (t2:TypeId)
 (ho:o.op= .call {callee:= .builtin .append,args:= #[s,x],argTypes:= #[t2,t2]}) (hs:a.eval s=v) (hF:qY F z) (i:TypeInfo) (zv:Value) (ht:Tryz.prog.underlying t2=some (.slice t)) (hi:Tryz.prog.info? t=some i) (hz:i.zero=some zv) (sS:i.size=z) (hzs:zv.cells.size=z) (iW:0 < z) (tM:i.bytes≤1000)
 (bE:jG F t z w base v E) {gx c:Nat} (hev:a.eval x= .slice (some ⟨gx,0,none⟩) 1 c) {A:Array Value} {e:α} (hx:Row w gx t A) (hA:F (fun b=>v.ownBlock=some b) w A e) (hlen:E.length≤1000000000) (kX:base≤w.heap.size)
 (h:∀v' w',jG F t z w' base v' (E++[e])→Below base w w'→wpList Tryz.prog ops Q rest (a.put o.dst v') w'):wpList Tryz.prog ops Q (o::rest) a w:=by
 refine wpList_plain tK fun K hK=>?_;obtain⟨v',w',hr,h2,h3⟩:=No hF t2 o.type i zv ht hi hz sS hzs iW tM bE (c:=c) hx hA hlen kX;unfold Oper.wp execOp;simp only[ho,resolve,invoke,builtin,Sem.run_bind,Sem.run_pure,Result.andThen_ok,List.map_toArray,List.map_cons,List.map_nil,hs,hev,hr];exact hK _ _ (h v' w' h2 h3)
end
theorem aeJ:∀(l:List Value) (arr:Array Value) (off k:Nat),off+k+l.length≤arr.size→(l.zipIdx k).foldl (fun cs (p:Value×Nat)=>cs.setIfInBounds (off+p.2) p.1) arr=putAt arr (off+k) l.toArray:=by
 intro l;induction l with
 |nil=>intro arr off k _;simp[putAt]
 |cons v r ih=>intro arr off k h;rw[List.length_cons] at h;rw[List.zipIdx_cons,List.foldl_cons,ih _ off (k+1) (by simp;omega)];exact IS arr (off+k) v r (by omega)
theorem Xc (place:Nat→Option (Nat×Nat)) (cells:Array Value) (i off n:Nat) (v:Value) (rest:List (Nat×Value)) (hp:place i=some (off,n)) (hv:v.cells.size=n) (hc:off+n≤cells.size):
 Instr.fill place cells ((i,v)::rest)=Instr.fill place (putAt cells off v.cells) rest:=by
 have hf:(v.cells.zipIdx.foldl (fun(cs:Array Value) (p:Value×Nat)=>cs.setIfInBounds (off+p.2) p.1) cells)=putAt cells off v.cells:=by have:=aeJ v.cells.toList cells off 0 (by rw[Array.length_toList];omega);rw[←Array.foldl_toList,Array.toList_zipIdx,this];simp
 rw[Instr.fill,hp];simp only;rw[if_neg (by simp[hv];omega)];exact congrArg (fun x=>Instr.fill place x rest) hf
theorem Xd (arr cs:Array Value) (h:cs.size=arr.size):putAt arr 0 cs=cs:=by unfold putAt;rw[Nat.zero_add,h,List.take_zero,List.drop_of_length_le (by simp)];simp
theorem KA {ops:Array Oper} {rest:List Oper} {o:Oper} {a:Act} {w:World} {Q:Exit→Act→World→Prop} (hg:o.guard=none) (t e:TypeId) (x:Operand) (ho:o.op= .buildSlice t 1 #[(0,x)]) {A:Array Value} (hx:a.eval x= .agg A)
 (ie:TypeInfo) (z:Value) (n:Nat) (hu:Tryz.prog.underlying t=some (.slice e)) (hie:Tryz.prog.info? e=some ie) (hz:ie.zero=some z) (hn:ie.size=n) (h0:0 < n) (h1:n≤1000) (hA:A.size=n)
 (h:wpList Tryz.prog ops Q rest (a.put o.dst (.slice (some ⟨w.heap.size,0,none⟩) 1 1)) (w.alloc (.cells A e))):wpList Tryz.prog ops Q (o::rest) a w:=by
 refine wpList_buildSlice hg t e 1 #[(0,x)] ho A ie z hu hie hz (by rw[hn];omega) (by rw[hn];omega) ?_ h;simp only[List.map_toArray,List.map_cons,List.map_nil,hx];rw[Xc _ _ 0 0 n (.agg A) [] (by simp[hn]) (by simpa[Value.cells] using hA) (by simp[hn])];rw[Instr.fill];congr 1;exact Xd _ _ (by simp[Value.cells,hA,hn])
def uJ (r:Bool) (ua:Array Value) (wv:Value):Array Value:=(Value.bool r::(ua.toList++[wv])).toArray
def iG (N:Nat→Prop) (w:World) (A:Array Value) (it:fV):Prop:=∃ua wv,A=uJ it.right ua wv∧cT N w ua it.url∧bP N w wv it.words
theorem Ae {r:Bool} {ua:Array Value} {wv:Value} (h:BD 23 ua) (hw:wv.oneCell'=true):BD 25 (uJ r ua wv):=by
 obtain⟨h1,h2⟩:=h;refine⟨by simp[uJ,h1],?_⟩;rw[Array.all_eq_true'] at h2⊢;intro x hx;simp only[uJ,List.mem_toArray,List.mem_cons,List.mem_append,List.not_mem_nil,or_false] at hx;rcases hx with rfl|hx|rfl;·rfl
 ·exact h2 x (by simpa using hx)
 ·exact hw
theorem cT.kept {N:Nat→Prop} {w w':World} {arr:Array Value} {u:bD} (h:cT N w arr u) (hs:w.heap.size≤w'.heap.size) (hk:∀b,¬N b→b < w.heap.size→w'.heap[b]? =w.heap[b]?):cT N w' arr u:=by obtain⟨pv,h1,h2,h3⟩:=h;exact⟨pv,h1,h2.kept hs hk,h3⟩
theorem cT.Ge {N N':Nat→Prop} {w:World} {arr:Array Value} {u:bD} (h:cT N w arr u) (hn:∀x,x < w.heap.size→N' x→N x):cT N' w arr u:=by obtain⟨pv,h1,h2,h3⟩:=h;exact⟨pv,h1,h2.Ge hn,h3⟩
theorem aY:qY iG 25 where
 dH h:=by obtain⟨ua,wv,rfl,hu,hp⟩:=h;obtain⟨x,c,rfl⟩:=hp.len;exact Ae hu.dH rfl
 keep h hs hk:=by obtain⟨ua,wv,h1,hu,hp⟩:=h;exact⟨ua,wv,h1,hu.kept hs hk,hp.kept hs hk⟩
 Ge h hn:=by obtain⟨ua,wv,h1,hu,hp⟩:=h;exact⟨ua,wv,h1,hu.Ge hn,hp.Ge hn⟩
def vL:Array Value:=uJ false uI (.slice none 0 0)
theorem LG (N:Nat→Prop) (w:World):iG N w vL {}:=⟨uI,.slice none 0 0,rfl,cT.zero N w,bP.nil N w⟩
theorem Af (w:World) (uY:Value):(Instr.alloc 52 true uY).run Tryz.prog w= .ok (.pointer (some ⟨w.heap.size,0,none⟩)) (w.alloc (.cells vL 52)):=by kernel_rfl
theorem Qr (w:World):(Instr.build 52 #[]).run Tryz.prog w= .ok (.agg vL) w:=by kernel_rfl
theorem aeK:(Tryz.prog.info? 52).map (fun i=>(i.zero,i.size,i.bytes))=some (some (.agg vL),25,240):=by kernel_rfl
theorem Jy {l:List Value} (h:l.length=23):∃a0 a1 a2 a3 a4 a5 a6 a7 a8 a9 b0 b1 b2 b3 b4 b5 b6 b7 b8 b9 c0 c1 c2,l=[a0,a1,a2,a3,a4,a5,a6,a7,a8,a9,b0,b1,b2,b3,b4,b5,b6,b7,b8,b9,c0,c1,c2]:=by
 match l,h with
 |[a0,a1,a2,a3,a4,a5,a6,a7,a8,a9,b0,b1,b2,b3,b4,b5,b6,b7,b8,b9,c0,c1,c2],_=>exact⟨_,_,_,_,_,_,_,_,_,_,_,_,_,_,_,_,_,_,_,_,_,_,_,rfl⟩
theorem Qs {ua:Array Value} (h:ua.size=23) (w:World):(Instr.build 52 #[(0,.bool true),(1,.agg ua)]).run Tryz.prog w= .ok (.agg (uJ true ua (.slice none 0 0))) w:=by obtain⟨l⟩:=ua;obtain⟨a0,a1,a2,a3,a4,a5,a6,a7,a8,a9,b0,b1,b2,b3,b4,b5,b6,b7,b8,b9,c0,c1,c2,rfl⟩:=Jy (by simpa using h);kernel_rfl
theorem wT {ops:Array Oper} {rest:List Oper} {o:Oper} {a:Act} {Q:Exit→Act→World→Prop} (hg:o.guard=none) (x y:Operand) (JM:o.op= .build 52 #[(0,x),(1,y)]) (w:World) (ua:Array Value) (hx:a.eval x= .bool true) (hy:a.eval y= .agg ua) (hu:ua.size=23)
 (hK:wpList Tryz.prog ops Q rest (a.put o.dst (.agg (uJ true ua (.slice none 0 0)))) w):wpList Tryz.prog ops Q (o::rest) a w:=
 aG hg 52 _ JM w _ (by simp only[List.map_toArray,List.map_cons,List.map_nil,hx,hy];exact Qs hu w) hK
def tS (o:Option bD):fV:=match o with
 |none=>{}
 |some u=>{right:=true,url:=u}
theorem CZ {N0:Nat→Prop} {arr:Array Value} {b:bD} {w:World} (hb:cT N0 w arr b) (lA:b.path.length≤10000000) (s:List UInt8) (hs:s.length≤5000000) (hW:Laid w):Calls Tryz.prog 41 #[.agg arr,.string (aA s)] w fun e w'=>Below w.heap.size w w'∧∃A,e= .returned (.agg A)∧iG (fun b=>b < w.heap.size) w' A (tS (kU J0 b (partsOf s))):=by
 have HW:=hid hW;have HU:=hid hb;have qX:=hid hb.dH;have HJ:=hid (fun W (h:cT N0 W arr b) hW=>Qq h lA s hs (w:=W) hW);generalize kU J0 b (partsOf s)=o at*;have HB:Hid (Below w.heap.size w w):=hid (Below.refl _ _);clear hb hW;go_enter Tryz.func41,Tryz.ntmps41;go_wp2_with (first|(refine jH (arr:=arr) rfl rfl ?_;intro gB w2 aE hN;have Kz:=jV HB hN;replace HB:=aR HB hN.out.2.1;clear hN)|(refine eX rfl (Af _) ?_;intro gR w2 bA hN;have uA:=fU aE hN;have Gd:=jV HB hN;replace aE:=aE.below hN.out.2.1;replace HB:=aR HB hN.out.2.1;clear hN)|(refine fF rfl aE jQ qX.out.1 rfl ?_));have yV:=hid HB.out.size;have HGR:=hid bA.lt;refine(HJ.out _ (HU.out.below HB.out) (HW.out.below HB.out HW.out.size)).mono ?_;rintro e w5 ⟨aM,ar,rfl,yN⟩;replace aE:=aE.below aM;replace bA:=bA.below aM;replace HB:=aR HB aM;have lX:=hid (yN.lE (N':=fun b=>b < w.heap.size∨b=gR) (fun x hx=>hx.elim (fun h=>Nat.lt_of_lt_of_le h yV.out) (fun h=>by rw[h];exact HGR.out)));have HO5:=hid yN.dH;clear aM yN HU HJ;cases o with
 |none=>go_wp2_with (first|(refine eX rfl (aO _) ?_;intro gJ w2 tT hN;have LH:=fU aE hN;have Cy:=fU bA hN;have lgJ:=jV HB hN;replace aE:=aE.below hN.out.2.1;replace bA:=bA.below hN.out.2.1;replace lX:=hid ((lX.out.Ge (N':=fun b=>b < w.heap.size∨b=gR∨b=gJ) (fun x hl hx=>hx.elim .inl (fun h=>h.elim .inr (fun h=>absurd hl (by rw[h,hN.out.1];exact Nat.lt_irrefl _))))).below hN.out.2.1);replace HB:=aR HB hN.out.2.1;clear hN)|(refine vS rfl tT HO5.out jQ rfl rfl ?_;intro w1 aH aB;replace lX:=hid (lX.out.save (bL.of aB) (.inr (.inr rfl)));replace aE:=aE.other aB (Nat.ne_of_lt LH);replace bA:=bA.other aB (Nat.ne_of_lt Cy);replace HB:=bU HB aB.1 lgJ;replace tT:=aH;clear aB aH)|(refine aG rfl 52 _ rfl _ (.agg vL) (Qr _) ?_)|(refine eW rfl 52 _ _ rfl gR 25 _ rfl rfl bA rfl (aY.dH (LG (fun _=>False) w)) (by kernel_rfl) ?_;intro w1 aH aB;replace aE:=aE.other aB (Nat.ne_of_lt uA);replace tT:=tT.other aB (Nat.ne_of_gt Cy);replace lX:=hid (lX.out.save (bL.of aB) (.inr (.inl rfl)));replace HB:=bU HB aB.1 Gd;replace bA:=aH;clear aB aH));refine cR rfl 25 rfl bA Tryz.underlying52 rfl rfl (by kernel_rfl) rfl ?_;exact⟨HB.out,vL,rfl,LG _ _⟩
 |some u=>go_wp2_with (first|(refine eX rfl (aO _) ?_;intro gJ w2 tT hN;have LH:=fU aE hN;have Cy:=fU bA hN;have lgJ:=jV HB hN;replace aE:=aE.below hN.out.2.1;replace bA:=bA.below hN.out.2.1;replace lX:=hid ((lX.out.Ge (N':=fun b=>b < w.heap.size∨b=gR∨b=gJ) (fun x hl hx=>hx.elim .inl (fun h=>h.elim .inr (fun h=>absurd hl (by rw[h,hN.out.1];exact Nat.lt_irrefl _))))).below hN.out.2.1);replace HB:=aR HB hN.out.2.1;clear hN)|(refine vS rfl tT HO5.out jQ rfl rfl ?_;intro w1 aH aB;replace lX:=hid (lX.out.save (bL.of aB) (.inr (.inr rfl)));replace aE:=aE.other aB (Nat.ne_of_lt LH);replace bA:=bA.other aB (Nat.ne_of_lt Cy);replace HB:=bU HB aB.1 lgJ;replace tT:=aH;clear aB aH)|(refine fF rfl tT jQ HO5.out.1 rfl ?_)|(refine wT rfl _ _ rfl _ ar rfl rfl HO5.out.1 ?_)|(refine vS rfl bA (Ae (r:=true) (wv:= .slice none 0 0) HO5.out rfl) R52 rfl rfl ?_;intro w1 aH aB;replace aE:=aE.other aB (Nat.ne_of_lt uA);replace tT:=tT.other aB (Nat.ne_of_gt Cy);replace lX:=hid (lX.out.save (bL.of aB) (.inr (.inl rfl)));replace HB:=bU HB aB.1 Gd;replace bA:=aH;clear aB aH));refine cR rfl 25 rfl bA Tryz.underlying52 rfl (Ae (r:=true) (wv:= .slice none 0 0) HO5.out rfl).1 (by kernel_rfl) rfl ?_;exact⟨HB.out,_,rfl,ar,.slice none 0 0,rfl,lX.out.lE (fun x hx=> .inl hx),bP.nil _ _⟩
end Go.Proofs.YtmgmclkplepapaaGreatDoor
