/- Part of the proof of TopBoundsUptoCardSaid. Conditions: none beyond the statement. -/
import Derived.Test.YtmgmclkplepapaaGreatDoorPt6
import Derived.Test.YtmgmclkplepapaaGreatDoorPt34
set_option linter.all false
set_option maxRecDepth 100000
set_option maxHeartbeats 64000000
namespace Go.Proofs.YtmgmclkplepapaaGreatDoor
open Go.RowKit
def dP (pv:Value) (u:bD):Array Value:=(Value.string (aA u.scheme):: .string (aA u.user):: .string (aA u.pass):: .int .i64 (u.host.kind:Int):: .string (aA u.host.name):: .int .u32 (u.host.four:Int)::(u.host.six.map eY++
 [.bool u.hasPort,.int .i64 (u.port:Int),.bool u.opaq,.string (aA u.flat),pv,.bool u.hasQuery,.string (aA u.query),.bool u.hasFrag,.string (aA u.frag)])).toArray
def bL (g:Nat) (w w':World):Prop:=Below g w w'∧∀b,b≠g→b < w.heap.size→w'.heap[b]? =w.heap[b]?
theorem bL.of {g:Nat} {w w':World} (h:mZ g w w'):bL g w w':=⟨h.1,fun b hb _=>h.2.2 b hb⟩
theorem bL.refl (g:Nat) (w:World):bL g w w:=⟨Below.refl _ _,fun _ _ _=>rfl⟩
theorem bL.trans {g:Nat} {w w' yT:World} (h:bL g w w') (k:bL g w' yT):bL g w yT:=⟨h.1.trans k.1,fun b hb hl=>(k.2 b hb (Nat.lt_of_lt_of_le hl h.1.size)).trans (h.2 b hb hl)⟩
theorem bL.below {g:Nat} {w w' yT:World} (h:bL g w w') (k:Below w'.heap.size w' yT) (hg:g≤w'.heap.size):bL g w yT:=⟨h.1.trans (k.mono hg),fun b hb hl=>(k.block b (Nat.lt_of_lt_of_le hl h.1.size)).trans (h.2 b hb hl)⟩
theorem Row.save {w w':World} {g g':Nat} {t:TypeId} {arr:Array Value} (h:Row w g t arr) (hk:bL g' w w') (eG:g≠g'):Row w' g t arr:=(hk.2 g eG h.lt).trans h
theorem fX.row {w w':World} {g:Nat} {t:TypeId} {arr:Array Value} (h:Row w g t arr) (hk:fX w.drew w'):Row w' g t arr:=(hk.block g h.lt).trans h
theorem Tc (a c e:ByteArray) (b d:Bool) (w:World):(Instr.build 34 #[(0,.string a),(9,.bool b),(10,.string c),(11,.bool d),(12,.string e)]).run Tryz.prog w= .ok (.agg #[.string a,.string ⟨#[]⟩,.string ⟨#[]⟩,.int .i64 0,.string ⟨#[]⟩,.int .u32 0,.int .u16 0,.int .u16 0,.int .u16 0,.int .u16 0,.int .u16 0,.int .u16 0,.int .u16 0,.int .u16 0,.bool false,.int .i64 0,.bool false,.string ⟨#[]⟩,.slice none 0 0,.bool b,.string c,.bool d,.string e]) w:=by kernel_rfl
theorem Lt {P:Program} {o:Oper} {a:Act} {w:World} {K:Act→World→Prop} {Q:Exit→Act→World→Prop} (ty:TypeId) (x y:Operand) (ho:o.op= .store ty x y) (g:Nat) (cs:Array Value) (hx:a.eval x= .pointer (some ⟨g,0,none⟩)) (hy:a.eval y= .agg cs)
 {t:TypeId} {arr:Array Value} (hR:Row w g t arr) (Rk:Nat.beq cs.size arr.size=true) (iW:(P.info? ty).map (·.size)=some cs.size) (h1:cs.all (·.oneCell')=true)
 (h:∀w',Row w' g t cs→mZ g w w'→K (a.put o.dst undef) w'):o.wp P a w K Q:=by
 have hi:cs.size=arr.size:=by simpa using Rk
 obtain⟨r1,r2⟩:=zZ g t cs.toList w arr 0 hR (by simp[hi]);refine wp_store_mid ty x y ho g 0 cs hx hy (fun j hj=>⟨?_,hR.frozen _⟩) iW h1 (h _ ?_ r2);·rw[hR.cell (Array.getElem?_eq_getElem (show 0+j < arr.size by omega))];rfl
 ·have:putAt arr 0 cs=cs:=by unfold putAt;rw[Nat.zero_add,hi,List.take_zero,List.drop_of_length_le (by simp)];simp
  have e:cs.toList.toArray=cs:=by simp
  rw[e,this] at r1;exact r1
theorem kO {P:Program} {o:Oper} {a:Act} {w:World} {K:Act→World→Prop} {Q:Exit→Act→World→Prop} (ty:TypeId) (x y:Operand) (ho:o.op= .store ty x y) (g i:Nat) (v:Value) (hx:a.eval x= .pointer (some ⟨g,i,none⟩)) (hy:a.eval y=v) (h1:v.oneCell'=true)
 {t:TypeId} {arr:Array Value} (hR:Row w g t arr) (Rk:Nat.blt i arr.size=true) (iW:(P.info? ty).map (·.size)=some 1)
 (h:∀w',Row w' g t (arr.setIfInBounds i v)→mZ g w w'→K (a.put o.dst undef) w'):o.wp P a w K Q:=by
 have hi:i < arr.size:=by simpa using Rk
 obtain⟨r1,r2⟩:=Br w g t arr i v hR hi;have hc:w.cell? ⟨g,i,none⟩=some arr[i]:=hR.cell (Array.getElem?_eq_getElem hi);have hz:=hR.frozen i;have uV:=run_storeCells_cells (P:=P) g i [v] 0 w (fun j hj=>by simp at hj;subst hj;simp[hc]) (fun j hj=>by simp at hj;subst hj;simpa using hz) (fun u hu=>by simp at hu;subst hu;exact h1);have tH:(storeVar ty ⟨g,i,none⟩ v).run P w= .ok () (w.setCell ⟨g,i,none⟩ v):=by
  cases hq:P.info? ty with
  |none=>simp[hq] at iW
  |some f=>
   have hs:f.size=1:=by simpa[hq] using iW
   simp only[Nat.add_zero] at uV;simp[storeVar,sizeOf,typeInfo,hq,Lk h1,hs,uV,World.setCells]
 unfold Oper.wp execOp;simp only[ho,hx,hy,Instr.storeAt,Instr.sureAddr,Sem.run_bind,Sem.run_pure,Result.andThen_ok,tH];exact h _ r1 r2
def uI:Array Value:= #[.string ⟨#[]⟩,.string ⟨#[]⟩,.string ⟨#[]⟩,.int .i64 0,.string ⟨#[]⟩,.int .u32 0,.int .u16 0,.int .u16 0,.int .u16 0,.int .u16 0,.int .u16 0,.int .u16 0,.int .u16 0,.int .u16 0,.bool false,.int .i64 0,.bool false,.string ⟨#[]⟩,.slice none 0 0,.bool false,.string ⟨#[]⟩,.bool false,.string ⟨#[]⟩]
theorem aO (w:World) (uY:Value):(Instr.alloc 34 true uY).run Tryz.prog w= .ok (.pointer (some ⟨w.heap.size,0,none⟩)) (w.alloc (.cells uI 34)):=by kernel_rfl
theorem wP (sch:List UInt8) (p:cU) (hq:p.query.length≤1000000000) (hf:p.frag.length≤1000000000) (w:World):
 Calls Tryz.prog 96 #[.string (aA sch),.agg (fK p)] w fun e w'=>e= .returned (.agg (dP (.slice none 0 0) (bG J0 sch p)))∧Below w.heap.size w w':=by
 have CO:=hid (fun W=>jS (aA sch) W);have HF:Hid (bG J0 sch p={scheme:=sch,hasQuery:=p.hasQuery,query:=pO (if aV (aA sch) then 3 else 2) p.query,hasFrag:=p.hasFrag,frag:=pO 1 p.frag}):=hid rfl;obtain⟨ps,pc,pr,aqK,qu,aqL,fr⟩:=p;simp only at hq hf HF;have HE2:=hid (fun W=>oJ qu 2 2 rfl W hq);have HE3:=hid (fun W=>oJ qu 3 3 rfl W hq);have CQ:=hid (fun W=>oJ fr 1 1 rfl W hf);generalize aV (aA sch)=sp at*;simp only[fK];cases sp;all_goals
  go_enter Tryz.func96,Tryz.ntmps96;go_wp2_with (first|(refine jH rfl rfl ?_;intro gP w1 aP hP)|(refine eX rfl (aO _) ?_;intro gA w2 aL hA));obtain⟨hgP,hbP,hzP⟩:=hP.out;obtain⟨Fc,xI,Fe⟩:=hA.out;have HB:=hid (hbP.trans (xI.mono (by omega)));replace aP:=aP.below xI;have Aa:w.heap.size≤gA:=by omega
  clear hgP hbP hzP Fc xI Fe hP hA;refine(CO.out _).mono ?_;rintro e w' ⟨rfl,rfl⟩;go_wp2_with fail;simp only[Bool.false_eq_true,if_false,if_true] at HF;apply kH fX [.val _,.val _,.val _,.val _,.val _,.val _,.val _,.val _,.val _,.val _,.val _,.val _,.val _] 13 _ rfl rfl rfl (by kernel_rfl) (by kernel_rfl) (by kernel_rfl) mM;simp only[List.take_succ_cons,List.take_zero];repeat (first
   |(apply aS.val; ·rfl
     ·intro W hW hF K hK;have c3:=(fX.row aP hW).cell (i:=3) rfl;have c4:=(fX.row aP hW).cell (i:=4) rfl;have c5:=(fX.row aP hW).cell (i:=5) rfl;have c6:=(fX.row aP hW).cell (i:=6) rfl;have hbu:=Tc;go_simp;exact hK _ (Below.refl _ _)
     simp only[pq])
   |(apply aS.val; ·rfl
     ·intro W hW hF K hK;go_simp;go_at_call 140;first
      |((with_reducible refine(HE2.out _).mono ?_);rintro e w2 ⟨rfl,dE⟩;exact hK _ dE)
      |((with_reducible refine(HE3.out _).mono ?_);rintro e w2 ⟨rfl,dE⟩;exact hK _ dE)
      |((with_reducible refine(CQ.out _).mono ?_);rintro e w2 ⟨rfl,dE⟩;exact hK _ dE)
     simp only[pq]))
  refine aS.nil ?_;intro w9 sK _;replace HB:=hid (HB.out.trans (((bB _).trans (sK.mono (Nat.le_refl _))).mono HB.out.size));replace aL:=fX.row aL sK;refine Lt 34 _ _ rfl gA _ rfl rfl aL rfl (by kernel_rfl) (by kernel_rfl) fun w8 aoA JT=>?_;go_wp2_with fail;refine bK rfl rfl aoA Tryz.underlying34 rfl (by kernel_rfl) rfl ?_;exact⟨by rw[HF.out];rfl,HB.out.trans (JT.1.mono Aa)⟩
def Cu (sp:Bool) (s:List UInt8):Nat:=(s.takeWhile (fR sp)).length
theorem ZU (sp:Bool) (s:List UInt8):Cu sp s≤s.length:=(List.takeWhile_sublist (l:=s) (fR sp)).length_le
theorem W0 {sp:Bool} {c:UInt8} {t:List UInt8} (h:fR sp c=true):Cu sp (c::t)=Cu sp t+1:=by unfold Cu;rw[List.takeWhile_cons];simp[h]
theorem ZV {sp:Bool} {c:UInt8} {t:List UInt8} (h:fR sp c=false):Cu sp (c::t)=0:=by unfold Cu;rw[List.takeWhile_cons];simp[h]
theorem sL (sch s:List UInt8) (hs:s.length≤1000000000) (w:World):Calls Tryz.prog 133 #[.string (aA sch),.string (aA s)] w fun e w'=>e= .returned (.int .i64 ((cV J0 sch s:Nat):Int))∧w=w':=by
 have CO:=hid (fun W=>jS (aA sch) W);have jB:Hid (cV J0 sch s=Cu (aV (aA sch)) s):=hid rfl;generalize aV (aA sch)=sp at*;have HZ:=hid (aD s);go_enter Tryz.func133,Tryz.ntmps133;go_wp2_with fail;refine(CO.out _).mono ?_;rintro e w' ⟨rfl,rfl⟩;go_wp2_with fail;go_loopw [6] (fun i wr=>∃k:Nat,i= .int .i64 (k:Int)∧k≤s.length∧Hid (cV J0 sch s=k+Cu sp (s.drop k))∧w=wr) (fun i _=>s.length - (intOf i).toNat);case atStart=>exact⟨0,rfl,Nat.zero_le _,hid (by rw[jB.out];simp),rfl⟩
 case round=>
  obtain⟨k,rfl,hk,hF,rfl⟩:=hrel;by_cases bC:k < s.length
  ·have jZ:k < (aA s).size:=by rw[HZ.out];exact bC
   have hg:(aA s)[k]'jZ=s[k]'bC:=jJ s k jZ;have aT:=hF.out;rw[List.drop_eq_getElem_cons bC] at aT;have iF:(s[k]'bC).toNat < 256:=(s[k]'bC).toNat_lt;obtain⟨c,hc⟩:∃c,c=s[k]'bC:=⟨_,rfl⟩;rw[←hc] at hg aT iF;have e47:((c.toNat:Int)==47)=(c==47):=lU c 47 (by decide);have e92:((c.toNat:Int)==92)=(c==92):=lU c 92 (by decide);have tF:fR sp c=(c==47||(sp&&c==92)):=rfl;have HC:= @W0 sp c (s.drop (k+1));have HN:= @ZV sp c (s.drop (k+1));generalize (c==47)=Y4 at*;generalize (c==92)=b92 at*;clear hF hc;have dO:(Y4=true∧fR sp c=true)∨(Y4=false∧sp=true∧b92=true∧fR sp c=true)∨(Y4=false∧sp=true∧b92=false∧fR sp c=false)∨(Y4=false∧sp=false∧fR sp c=false):=by cases Y4<;>cases b92<;>cases sp<;>simp_all
   clear tF;rcases dO with⟨rfl,wK⟩|⟨rfl,rfl,rfl,wK⟩|⟨rfl,rfl,rfl,wK⟩|⟨rfl,rfl,wK⟩
   ·rw[HC wK] at aT;have HF:Hid (cV J0 sch s=(k+1)+Cu sp (s.drop (k+1))):=hid (by rw[aT];omega);clear aT wK HC HN;go_wp2_with fail;go_roundw;case rel=>exact⟨k+1,by go_num,by omega,HF,trivial⟩
    case measure=>simp[intOf];omega
   ·rw[HC wK] at aT;have HF:Hid (cV J0 sch s=(k+1)+Cu true (s.drop (k+1))):=hid (by rw[aT];omega);clear aT wK HC HN;go_wp2_with fail;go_roundw;case rel=>exact⟨k+1,by go_num,by omega,HF,trivial⟩
    case measure=>simp[intOf];omega
   iterate 2
    ·rw[HN wK] at aT;have HF:=hid aT;clear aT wK HC HN;go_wp2_with fail;go_ret;exact⟨by rw[HF.out];rfl,rfl⟩
  ·obtain rfl:k=s.length:=by omega
   have HF:Hid (cV J0 sch s=s.length):=hid (by rw[hF.out,List.drop_length];rfl);have Bd:=HZ.out;clear hF HZ;go_wp2_with fail;go_ret;exact⟨by rw[HF.out];rfl,rfl⟩
theorem wQ (sch s:List UInt8):cV J0 sch s≤s.length:=ZU _ _
theorem Ay (sch s:List UInt8) (hs:s.length≤1000000000) (w:World):Calls Tryz.prog 98 #[.string (aA sch),.string (aA s)] w fun e w'=>e= .returned (.string (aA (fD J0 sch s)))∧w=w':=by
 have GO:=hid (fun W=>sL sch s hs W);have HF:Hid (fD J0 sch s=s.drop (cV J0 sch s)):=hid rfl;have hle:=wQ sch s;generalize cV J0 sch s=n at*;have he:=cX s n;have iW:=aD s;have hn:n≤(aA s).size:=by omega
 clear hle iW;go_enter Tryz.func98,Tryz.ntmps98;go_wp2_with fail;refine(GO.out _).mono ?_;rintro e w' ⟨rfl,rfl⟩;go_wp2_with fail;go_ret;exact⟨by rw[HF.out];rfl,rfl⟩
def bP (N:Nat→Prop) (w:World) (v:Value) (L:List (List UInt8)):Prop:=
 (v= .slice none 0 0∧L=[])∨
 ∃b off c,¬N b∧b < w.heap.size∧v= .slice (some ⟨b,off,none⟩) L.length c∧L.length≤c∧∀j (h:j < L.length),w.cell? ⟨b,off+j,none⟩=some (.string (aA L[j]))
theorem bP.nil (N:Nat→Prop) (w:World):bP N w (.slice none 0 0) []:= .inl ⟨rfl,rfl⟩
theorem bP.len {N:Nat→Prop} {w:World} {v:Value} {L:List (List UInt8)} (h:bP N w v L):∃a c,v= .slice a L.length c:=by
 rcases h with⟨rfl,rfl⟩|⟨b,off,c,_,_,rfl,_⟩;·exact⟨none,0,rfl⟩
 ·exact⟨_,c,rfl⟩
theorem bP.read {N:Nat→Prop} {w:World} {v:Value} {L:List (List UInt8)} (h:bP N w v L):bT w v (L.map aA):=by
 rcases h with⟨rfl,rfl⟩|⟨b,off,c,_,_,rfl,hc,aW⟩;·exact .inl ⟨rfl,rfl⟩
 ·refine .inr ⟨b,off,c,by rw[List.length_map],by rw[List.length_map];exact hc,fun j hj=>?_⟩;rw[List.length_map] at hj;rw[aW j hj];simp
theorem bP.own {N:Nat→Prop} {base:Nat} {w:World} {v:Value} {L:List (List UInt8)} (h:fN w base v (L.map aA)) (hN:∀x,N x→x < base):bP N w v L:=by
 have h':=h;obtain⟨h1,h2⟩:=h;rcases h2 with⟨rfl,h3⟩|⟨b,cap,cur,rfl,hb,hh,hc,hm,hs,ht⟩;·rw[List.length_map] at h3;exact .inl ⟨rfl,List.length_eq_zero_iff.1 h3⟩
 ·rw[List.length_map] at hc;refine .inr ⟨b,0,cap,fun hx=>absurd (hN b hx) (by omega),(Array.getElem?_eq_some_iff.1 hh).1,by rw[List.length_map],hc,fun j hj=>?_⟩;have:=World.ownsRow.cells h' (g:=b) rfl j (.string (aA L[j])) (by simp[hj]);rw[CH] at this;rw[Nat.zero_add];exact this
theorem bP.save {N:Nat→Prop} {g:Nat} {w w':World} {v:Value} {L:List (List UInt8)} (h:bP N w v L) (hs:bL g w w') (hg:N g):bP N w' v L:=by
 rcases h with h|⟨b,off,c,hb,hl,hv,hc,aW⟩;·exact .inl h
 ·refine .inr ⟨b,off,c,hb,Nat.lt_of_lt_of_le hl hs.1.size,hv,hc,fun j hj=>?_⟩;have:=aW j hj;unfold World.cell? at this⊢;simp only[hs.2 b (fun e=>hb (e▸hg)) hl];exact this
theorem bP.below {N:Nat→Prop} {w w':World} {v:Value} {L:List (List UInt8)} (h:bP N w v L) (hb:Below w.heap.size w w'):bP N w' v L:=by
 rcases h with h|⟨b,off,c,eN,hl,hv,hc,aW⟩;·exact .inl h
 ·refine .inr ⟨b,off,c,eN,Nat.lt_of_lt_of_le hl hb.size,hv,hc,fun j hj=>?_⟩;exact(hb.cell (p:=⟨b,off+j,none⟩) hl).trans (aW j hj)
theorem jD (sch:List UInt8) (v:Value) (L:List (List UInt8)) (t:List UInt8) (w:World) (hv:bT w v (L.map aA)) (hl:L.length≤100000000) (ht:t.length≤100000000):
 Calls Tryz.prog 137 #[.string (aA sch),v,.string (aA t)] w fun e w'=>∃v',e= .returned v'∧fN w' w.heap.size v' ((J0.dU sch L t).map aA)∧Below w.heap.size w w':=by
 refine(Pb (aA sch) v L (aA t) w hv hl (by rw[aD];exact ht)).mono ?_;rintro e w' ⟨v',h1,h2,h3⟩;rw[aC] at h2;exact⟨v',h1,h2,h3⟩
theorem DX (sch s:List UInt8) (hs:s.length≤100000000) (w:World):Calls Tryz.prog 143 #[.string (aA sch),.string (aA s)] w fun e w'=>∃v',e= .returned v'∧fN w' w.heap.size v' ((oQ J0 sch s).map aA)∧Below w.heap.size w w':=by
 have GO:=hid (fun W=>sL sch s (by omega) W);have HF:Hid (oQ J0 sch s=J0.dU sch [] (if 0 < cV J0 sch s then s.drop 1 else s)):=hid rfl;have hle:=wQ sch s;generalize cV J0 sch s=n at*;have iW:=aD s;by_cases hn:0 < n;rw[if_pos hn] at HF;have he:=cX s 1;have h1:1≤(aA s).size:=by omega
 have hl1:(s.drop 1).length≤100000000:=by simp;omega
 have HG:=hid (fun W=>jD sch (.slice none 0 0) [] (s.drop 1) W (.inl ⟨rfl,rfl⟩) (by simp) hl1);obtain⟨t,ht⟩:∃t,t=s.drop 1:=⟨_,rfl⟩;rw[←ht] at he HG HF;have hd:decide ((0:Int) < (n:Int))=true:=by simp;omega
 clear hle iW ht hl1;rotate_left;rw[if_neg hn] at HF;have HG:=hid (fun W=>jD sch (.slice none 0 0) [] s W (.inl ⟨rfl,rfl⟩) (by simp) hs);obtain rfl:n=0:=by omega
 clear hle iW hn;all_goals
  go_enter Tryz.func143,Tryz.ntmps143;go_wp2_with fail;refine(GO.out _).mono ?_;rintro e w' ⟨rfl,rfl⟩;go_wp2_with fail;refine(HG.out _).mono ?_;rintro e w' ⟨v',rfl,h2,h3⟩;have H2:=hid h2;clear h2;go_wp2_with fail;go_ret;exact⟨v',rfl,by rw[HF.out];exact H2.out,h3⟩
def Lu (s0 s1 s2 s3 s4 s5 s6 s7 s8 s9 Nb PU PV Td Te Tf QS QT s18 s19 s20 QU QV v0 v1 v2 v3 v4 v5 v6 v7 v8 v9 v10 v11 v12 v13 v14:Value) (b1 b2 b3 b4 b5:Bool):Array Value:= #[s0,bif b1 then v0 else s1,bif b2 then v1 else s2,bif b3 then v2 else s3,bif b3 then v3 else s4,bif b3 then v4 else s5,bif b3 then v5 else s6,bif b3 then v6 else s7,bif b3 then v7 else s8,bif b3 then v8 else s9,bif b3 then v9 else Nb,bif b3 then v10 else PU,bif b3 then v11 else PV,bif b3 then v12 else Td,bif b4 then v13 else Te,bif b5 then v14 else Tf,QS,QT,s18,s19,s20,QU,QV]
theorem UI {F:Bool→Bool→Bool→Bool→Bool→Array Value} {st:Nat×Nat×Nat×Nat×Nat} {L:Nat→Bool} {i:Nat} {W:World} {g:Nat} {t:TypeId} (h:(st.1 !=i&&(st.2.1 !=i&&(st.2.2.1 !=i&&(st.2.2.2.1 !=i&&st.2.2.2.2 !=i))))=true) (hR:Row W g t (F (L st.1) (L st.2.1) (L st.2.2.1) (L st.2.2.2.1) (L st.2.2.2.2))):
 Row W g t (F (A6 L i st.1) (A6 L i st.2.1) (A6 L i st.2.2.1) (A6 L i st.2.2.2.1) (A6 L i st.2.2.2.2)):=by
 simp only[Bool.and_eq_true,bne_iff_ne] at h;rw[aU L h.1,aU L h.2.1,aU L h.2.2.1,aU L h.2.2.2.1,aU L h.2.2.2.2];exact hR
theorem BB {P:Program} {o:Oper} {a:Act} {w:World} {K:Act→World→Prop} {Q:Exit→Act→World→Prop} (ty:TypeId) (x:Operand) (ho:o.op= .load ty x) (g i:Nat) (hx:a.eval x= .pointer (some ⟨g,i,none⟩)) {t:TypeId} {arr:Array Value} (hR:Row w g t arr) (cs:List Value) (AB:(arr.toList.drop i).take cs.length=cs) (d:TypeDesc)
 (hu:P.underlying ty=some d) (hd:d.isRow=true) (hi:(P.info? ty).map (·.size)=some cs.length)
 (h:K (a.put o.dst (.agg cs.toArray)) w):o.wp P a w K Q:=by
 refine wp_load_mid ty x ho g i hx cs d (fun j v hv=>?_) hu hd hi h;refine hR.cell ?_;have hj:j < cs.length:=(List.getElem?_eq_some_iff.1 hv).1;have Vf:((arr.toList.drop i).take cs.length)[j]? =some v:=by rw[AB];exact hv
 rw[List.getElem?_take_of_lt hj,List.getElem?_drop] at Vf;simpa using Vf
theorem Lv {P:Program} {o:Oper} {a:Act} {w:World} {K:Act→World→Prop} {Q:Exit→Act→World→Prop} (ty:TypeId) (x y:Operand) (ho:o.op= .store ty x y) (g i:Nat) (cs:Array Value) (hx:a.eval x= .pointer (some ⟨g,i,none⟩)) (hy:a.eval y= .agg cs)
 {t:TypeId} {arr:Array Value} (hR:Row w g t arr) (Rk:Nat.ble (i+cs.size) arr.size=true) (iW:(P.info? ty).map (·.size)=some cs.size) (h1:cs.all (·.oneCell')=true)
 (h:∀w',Row w' g t (putAt arr i cs)→mZ g w w'→K (a.put o.dst undef) w'):o.wp P a w K Q:=by
 have hi:i+cs.size≤arr.size:=by simpa using Rk
 obtain⟨r1,r2⟩:=zZ g t cs.toList w arr i hR (by simpa using hi);refine wp_store_mid ty x y ho g i cs hx hy (fun j hj=>⟨?_,hR.frozen _⟩) iW h1 (h _ (by simpa using r1) r2);rw[hR.cell (Array.getElem?_eq_getElem (show i+j < arr.size by omega))];rfl
theorem Jr (g:Nat) (s0 s1 s2 s3 s4 s5 s6 s7 s8 s9 Nb PU PV Td Te Tf QS QT s18 s19 s20 QU QV q0 q16 q17 q18 q19 q20 q21 q22:Value) (us ps hn:ByteArray) (hk hf po:Int) (x0 x1 x2 x3 x4 x5 x6 x7:Int) (hp:Bool) (w:World) (hR:Row w g 34 #[s0,s1,s2,s3,s4,s5,s6,s7,s8,s9,Nb,PU,PV,Td,Te,Tf,QS,QT,s18,s19,s20,QU,QV]):
 Calls Tryz.prog 145 #[.pointer (some ⟨g,0,none⟩),.agg #[q0,.string us,.string ps,.int .i64 hk,.string hn,.int .u32 hf,.int .u16 x0,.int .u16 x1,.int .u16 x2,.int .u16 x3,.int .u16 x4,.int .u16 x5,.int .u16 x6,.int .u16 x7,.bool hp,.int .i64 po,q16,q17,q18,q19,q20,q21,q22]] w fun e w'=>e= .returned (.tuple #[])∧Row w' g 34 #[s0,.string us,.string ps,.int .i64 hk,.string hn,.int .u32 hf,.int .u16 x0,.int .u16 x1,.int .u16 x2,.int .u16 x3,.int .u16 x4,.int .u16 x5,.int .u16 x6,.int .u16 x7,.bool hp,.int .i64 po,QS,QT,s18,s19,s20,QU,QV]∧bL g w w':=by
 go_enter Tryz.func145,Tryz.ntmps145;go_wp2_with (refine jH rfl rfl ?_;intro gB w1 aJ hB);obtain⟨Ff,rR,GN⟩:=hB.out;have bC:=hR.lt;have rO:Hid (gB≠g):=hid (by omega);have hR1:=hR.below rR;have hS1:bL g w w1.drew:=(bL.refl g w).below (rR.trans (bB w1|>.mono (by omega))) (by omega);have HI0:Hid (bL g w w1.drew∧Row w1.drew gB 34 #[q0,.string us,.string ps,.int .i64 hk,.string hn,.int .u32 hf,.int .u16 x0,.int .u16 x1,.int .u16 x2,.int .u16 x3,.int .u16 x4,.int .u16 x5,.int .u16 x6,.int .u16 x7,.bool hp,.int .i64 po,q16,q17,q18,q19,q20,q21,q22]∧Row w1.drew g 34 (Lu s0 s1 s2 s3 s4 s5 s6 s7 s8 s9 Nb PU PV Td Te Tf QS QT s18 s19 s20 QU QV (.string us) (.string ps) (.int .i64 hk) (.string hn) (.int .u32 hf) (.int .u16 x0) (.int .u16 x1) (.int .u16 x2) (.int .u16 x3) (.int .u16 x4) (.int .u16 x5) (.int .u16 x6) (.int .u16 x7) (.bool hp) (.int .i64 po) false false false false false)):=hid ⟨hS1,aJ,hR1⟩;clear Ff rR GN hB bC hR1 hS1 aJ hR;apply BT (fun L W=>bL g w W∧Row W gB 34 #[q0,.string us,.string ps,.int .i64 hk,.string hn,.int .u32 hf,.int .u16 x0,.int .u16 x1,.int .u16 x2,.int .u16 x3,.int .u16 x4,.int .u16 x5,.int .u16 x6,.int .u16 x7,.bool hp,.int .i64 po,q16,q17,q18,q19,q20,q21,q22]∧Row W g 34 (Lu s0 s1 s2 s3 s4 s5 s6 s7 s8 s9 Nb PU PV Td Te Tf QS QT s18 s19 s20 QU QV (.string us) (.string ps) (.int .i64 hk) (.string hn) (.int .u32 hf) (.int .u16 x0) (.int .u16 x1) (.int .u16 x2) (.int .u16 x3) (.int .u16 x4) (.int .u16 x5) (.int .u16 x6) (.int .u16 x7) (.bool hp) (.int .i64 po) (L 17) (L 20) (L 23) (L 26) (L 29))) rfl (by kernel_rfl) HI0.out;simp only[];repeat (first
  |(apply iX.step; ·rfl
    ·intro L W hI hl K hK;refine kO 9 _ _ rfl g 1 (.string us) rfl rfl rfl hI.2.2 rfl (by kernel_rfl) fun w' hr he=>hK w' ⟨hI.1.trans (bL.of he),hI.2.1.other he rO.out,by rw[kN,aU L (show(20:Nat)≠17 by decide),aU L (show(23:Nat)≠17 by decide),aU L (show(26:Nat)≠17 by decide),aU L (show(29:Nat)≠17 by decide)];exact hr⟩
    simp only[pq])
  |(apply iX.step; ·rfl
    ·intro L W hI hl K hK;refine kO 9 _ _ rfl g 2 (.string ps) rfl rfl rfl hI.2.2 rfl (by kernel_rfl) fun w' hr he=>hK w' ⟨hI.1.trans (bL.of he),hI.2.1.other he rO.out,by rw[kN,aU L (show(17:Nat)≠20 by decide),aU L (show(23:Nat)≠20 by decide),aU L (show(26:Nat)≠20 by decide),aU L (show(29:Nat)≠20 by decide)];exact hr⟩
    simp only[pq])
  |(apply iX.step; ·rfl
    ·intro L W hI hl K hK;refine Lv 32 _ _ rfl g 3 #[.int .i64 hk,.string hn,.int .u32 hf,.int .u16 x0,.int .u16 x1,.int .u16 x2,.int .u16 x3,.int .u16 x4,.int .u16 x5,.int .u16 x6,.int .u16 x7] rfl rfl hI.2.2 rfl (by kernel_rfl) (by kernel_rfl) fun w' hr he=>hK w' ⟨hI.1.trans (bL.of he),hI.2.1.other he rO.out,by rw[kN,aU L (show(17:Nat)≠23 by decide),aU L (show(20:Nat)≠23 by decide),aU L (show(26:Nat)≠23 by decide),aU L (show(29:Nat)≠23 by decide)];exact hr⟩
    simp only[pq])
  |(apply iX.step; ·rfl
    ·intro L W hI hl K hK;refine kO 4 _ _ rfl g 14 (.bool hp) rfl rfl rfl hI.2.2 rfl (by kernel_rfl) fun w' hr he=>hK w' ⟨hI.1.trans (bL.of he),hI.2.1.other he rO.out,by rw[kN,aU L (show(17:Nat)≠26 by decide),aU L (show(20:Nat)≠26 by decide),aU L (show(23:Nat)≠26 by decide),aU L (show(29:Nat)≠26 by decide)];exact hr⟩
    simp only[pq])
  |(apply iX.step; ·rfl
    ·intro L W hI hl K hK;refine kO 3 _ _ rfl g 15 (.int .i64 po) rfl rfl rfl hI.2.2 rfl (by kernel_rfl) fun w' hr he=>hK w' ⟨hI.1.trans (bL.of he),hI.2.1.other he rO.out,by rw[kN,aU L (show(17:Nat)≠29 by decide),aU L (show(20:Nat)≠29 by decide),aU L (show(23:Nat)≠29 by decide),aU L (show(26:Nat)≠29 by decide)];exact hr⟩
    simp only[pq])
  |(apply iX.step; ·rfl
    ·intro L W hI hl K hK;refine BB 32 _ rfl gB 3 rfl hI.2.1 [.int .i64 hk,.string hn,.int .u32 hf,.int .u16 x0,.int .u16 x1,.int .u16 x2,.int .u16 x3,.int .u16 x4,.int .u16 x5,.int .u16 x6,.int .u16 x7] rfl _ Tryz.underlying32 rfl (by kernel_rfl) (hK W ⟨hI.1,hI.2.1,UI (st:=(17,20,23,26,29)) (by decide) hI.2.2⟩)
    simp only[pq])
  |(apply iX.step; ·rfl
    ·intro L W hI hl K hK;have c1:=hI.2.1.cell (i:=1) rfl;have c2:=hI.2.1.cell (i:=2) rfl;have c14:=hI.2.1.cell (i:=14) rfl;have c15:=hI.2.1.cell (i:=15) rfl;go_simp;exact hK W ⟨hI.1,hI.2.1,UI (st:=(17,20,23,26,29)) (by decide) hI.2.2⟩
    simp only[pq]))
 refine iX.nil ?_;intro L W iK hI;have pG:=hI.2.2;rw[iK 17 (by decide),iK 20 (by decide),iK 23 (by decide),iK 26 (by decide),iK 29 (by decide)] at pG;simp only[Lu,cond_true] at pG;have Cv:=hI.1;clear hI iK
 go_end0
 exact⟨rfl,pG,Cv⟩
end Go.Proofs.YtmgmclkplepapaaGreatDoor
