/- Part of the proof of TopBoundsUptoCardSaid. Conditions: none beyond the statement. -/
import Derived.Test.YtmgmclkplepapaaGreatDoorPt47
set_option linter.all false
set_option maxRecDepth 100000
set_option maxHeartbeats 64000000
namespace Go.Proofs.YtmgmclkplepapaaGreatDoor
open Go.RowKit
theorem D5 (D:List (List UInt8)→Bool):∀(n:Nat) (l:List UInt8),(gG D n l).length≤l.length:=by
 intro n;induction n with
 |zero=>intro l;rw[gG];simp
 |succ n ih=>
  intro l;rw[gG];simp only;by_cases ha:(l.dropWhile fun c=>c==44||aI c)=[];·rw[if_pos ha];simp
  ·rw[if_neg ha];have h1:=bW (fun c=>c==44||aI c) l;have h2:=UP LJ l ha;generalize (l.dropWhile fun c=>c==44||aI c)=a at*;have h3:=congrArg List.length (List.takeWhile_append_dropWhile (p:=fun c=> !aI c) (l:=a));rw[List.length_append] at h3;generalize (a.takeWhile fun c=> !aI c)=url at*;generalize (a.dropWhile fun c=> !aI c)=r at*;have h4:=ih r;obtain⟨j,h5,h6⟩:=BG r.length r;have h7:=ih ((bV r).2.drop 1);have h8:(bV r).2.length≤r.length:=by unfold bV;rw[h6,List.length_drop];omega
   rw[List.length_drop] at h7
   repeat' split
   all_goals(try simp only[List.length_cons])
   all_goals omega
theorem LL {L:List AM} {c:AM} (h:c∈L):c.url.length≤oX L∧c.words.length≤oX L:=by
 induction L with
 |nil=>exact absurd h (by simp)
 |cons a r ih=>
  have he:oX (a::r)=a.url.length+lC a.words+oX r:=by simp[oX,KR]
  rw[he];rcases List.mem_cons.1 h with rfl|h;·have:=(@LI c.words).1;omega
  ·have:=ih h;omega
theorem BE.cells {N:Nat→Prop} {w:World} {arr:Array Value} {url:List UInt8} {words:List (List UInt8)} (h:BE N w arr url words):arr[0]? =some (.string (aA url))∧∃a c,arr[1]? =some (.slice a words.length c)∧bT w (.slice a words.length c) (words.map aA):=by obtain⟨c,wv,rfl,hp⟩:=h;obtain⟨a,c',rfl⟩:=hp.len;exact⟨rfl,a,c',rfl,hp.read⟩
theorem TJ {N N':Nat→Prop} {w:World} {A:Array Value} {it:fV} (h:iF N w A it) {v:Value} {L:List (List UInt8)} (hv:bP N' w v L) (hn:∀x,N' x→N x):iF N' w (A.setIfInBounds 24 v) {it with words:=L}:=by obtain⟨ua,wv,rfl,hu,hp⟩:=h;refine⟨ua,v,?_,hu.lD hn,hv⟩;have h23:=hu.dH.1;obtain⟨l⟩:=ua;obtain⟨a0,a1,a2,a3,a4,a5,a6,a7,a8,a9,b0,b1,b2,b3,b4,b5,b6,b7,b8,b9,c0,c1,c2,rfl⟩:=Jx (by simpa using h23);rfl
theorem mU {ops:Array Oper} {rest:List Oper} {o:Oper} {a:Act} {Q:Exit→Act→World→Prop} {w:World} (tJ:o.guard=none) (ty:TypeId) (x:Operand) (ho:o.op= .load ty x) (g i n:Nat) (hx:a.eval x= .pointer (some ⟨g,i,none⟩)) {t:TypeId} {cur:Array Value} (hR:Row w g t cur) (A:Array Value) (AA:(cur.toList.drop i).take n=A.toList) (hA:A.size=n) (d:TypeDesc)
 (hu:Tryz.prog.underlying ty=some d) (hd:d.isRow=true) (hi:(Tryz.prog.info? ty).map (·.size)=some n)
 (h:wpList Tryz.prog ops Q rest (a.put o.dst (.agg A)) w):wpList Tryz.prog ops Q (o::rest) a w:=
 fO tJ ty x ho g i hx hR A.toList (by rw[Array.length_toList,hA];exact AA) d hu hd (by rw[Array.length_toList,hA];exact hi) h
theorem Xp {N0:Nat→Prop} {arr:Array Value} {b:bD} {w:World} (hb:cT N0 w arr b) (kZ:b.path.length≤10000000) (s:List UInt8) (hs:s.length≤1000000) (hW:Laid w):Calls Tryz.prog 20 #[.int .i64 2,.agg arr,.string (aA s)] w fun e w'=>Cz ((qF mB s).map fun c=>{tR (kS J0 b (partsOf c.url)) with words:=c.words},[]) w e w':=by
 have HW:=hid hW;have HU:=hid hb;have qW:=hid hb.dH;have CN:=hid (fun W hW=>Ns s hs W hW);have Kf:=hid (fun(c:AM) (h:c∈qF mB s)=>(show c.url.length≤5000000∧c.words.length≤1000000000 from by have:=LL h;have:=CD mB s;omega));have hcn:=D5 mB s.length s;have HCN:Hid ((qF mB s).length≤1000000):=hid (Nat.le_trans hcn hs);have HI:=hid (fun W h s hs hW=>CY (N0:=N0) (w:=W) (arr:=arr) (b:=b) h kZ s hs hW);obtain⟨i52,JC,JD,JE,Xo⟩:=BI;obtain⟨f,hf⟩:∃f:AM→fV,f=fun c=>{tR (kS J0 b (partsOf c.url)) with words:=c.words}:=⟨_,rfl⟩;have HF:Hid (∀c,f c={tR (kS J0 b (partsOf c.url)) with words:=c.words}):=hid (fun c=>by rw[hf]);rw[←hf];generalize qF mB s=C at*;have HB:Hid (Below w.heap.size w w):=hid (Below.refl _ _);clear hb hW hcn hf;go_enter Tryz.func20,Tryz.ntmps20;go_wp2_with (first|(refine jG (arr:=arr) rfl rfl ?_;intro gB w2 aE hN;have Ky:=jU HB hN;replace HB:=aR HB hN.out.2.1;clear hN)|(refine eX (d:=6) rfl (eS _) ?_;intro gO w2 bQ hN;have yQ:=fU aE hN;have Nu:=jU HB hN;replace aE:=aE.below hN.out.2.1;replace HB:=aR HB hN.out.2.1;clear hN)|(refine eX (d:=7) rfl (eS _) ?_;intro gR w2 bA hN;have tZ:=fU aE hN;have oL:=fU bQ hN;have Gc:=jU HB hN;replace aE:=aE.below hN.out.2.1;replace bQ:=bQ.below hN.out.2.1;replace HB:=aR HB hN.out.2.1;clear hN));refine(CN.out _ (HW.out.below HB.out HW.out.size)).mono ?_;rintro e wL ⟨cv,rfl,G2,aM⟩;have HC0:=hid ((G2.LH jD (Nat.le_of_lt bA.lt)).mono (base':=gR+1) (Nat.le_succ_of_le bA.lt));replace aE:=aE.below aM;replace bQ:=bQ.below aM;replace bA:=bA.below aM;replace HB:=aR HB aM;have HRB:=hid aE;have HRO:=hid bQ;have HRR:=hid bA;have ID:=HB;have rN:Hid (gB < gR∧gO < gR∧w.heap.size≤gO∧w.heap.size≤gR):=hid ⟨tZ,oL,Nu,Gc⟩;obtain⟨Av,cc,aoP,_⟩:=(G2.read (jD.aw _)).len;subst aoP;clear aM G2 aE bQ bA tZ oL yQ Ky Nu Gc CN HB;go_wp2_with fail;go_loopg [27] C.length (fun gk s27 wr=>∃(k:Nat) (acc:List fV) (v:Value),gk=C.length - k∧k≤C.length∧s27= .int .i64 (k:Int)∧acc.length≤k∧Hid (acc=(C.take k).map f)∧Hid (jF (Aw gR iF) 52 25 wr wL.heap.size v acc)∧Hid (Row wr gR 43 #[v,.string (aA [])])∧Hid (bL gR wL wr));case atStart=>exact⟨0,[],_,rfl,Nat.zero_le _,rfl,Nat.le_refl _,hid rfl,hid jF.nil,HRR,hid (bL.refl _ _)⟩
 case round=>
  obtain⟨k,acc,v,rfl,hkC,rfl,hal,HA,HO,amA,HS⟩:=hrel;have bA:=amA.out;have aE:Row _ gB 34 arr:=(HS.out.2 gB (Nat.ne_of_lt rN.out.1) HRB.out.lt).trans HRB.out;have bQ:Row _ gO 43 _:=(HS.out.2 gO (Nat.ne_of_lt rN.out.2.1) HRO.out.lt).trans HRO.out;have HC:=hid (HC0.out.oK jD (Nat.le_refl _) (Nat.lt_succ_self _) HS.out);have dR:=hid (ID.out.trans (HS.out.1.mono rN.out.2.2.2));have hcn:=HCN.out;clear amA;by_cases bC:k < C.length
  ·have vA:(k:Int) < (C.length:Int):=by omega
   obtain⟨gc,c9,cur,A,tE,hc9,yR,hA,hdt,hA8⟩:=(HC.out.read (jD.aw gR)).at (jD.aw gR) bC;injection tE with Nv _ Nw;subst Nv Nw;have Sn:Hid ((C.take (k+1)).map f=(C.take k).map f++[f C[k]]):=hid (by rw[List.take_succ_eq_append_getElem bC,List.map_append];rfl);have iV:=Kf.out _ (List.getElem_mem bC);have hfk:=HF.out C[k];generalize hck:C[k]'bC=ck at*;rw[hfk] at Sn;obtain⟨url,ws⟩:=ck;obtain⟨hA0,wa,wc,hA1,Wg⟩:=BE.cells hA;simp only at hA0 hA1 Wg iV Sn;obtain⟨hu1,hu2⟩:=iV;have MR:=hid (fun W h hW=>HI.out W h url hu1 hW);have QP:=hid (fun W h=>pW (.slice wa ws.length wc) ws W h hu2);have DO:=hid Wg;generalize tR (kS J0 b (partsOf url))=it at*;have HRC:Hid (Below wr.heap.size wr wr):=hid (Below.refl _ _);clear hfk hck hA Wg hu1 hu2;have HGR:=hid bA.lt;have HB:=HRC;have rB:=dR.out.size;go_wp2_with (first|(refine mU rfl 92 _ rfl gc (k*8) 8 rfl yR A hdt hA8.1 _ Tryz.underlying92 rfl (by kernel_rfl) ?_)|(refine eX rfl (mT _) ?_;intro gC w2 fY hN;have Z4:=fU aE hN;have amB:=fU bQ hN;have BF:=fU bA hN;have lgC:=jU HB hN;replace aE:=aE.below hN.out.2.1;replace bQ:=bQ.below hN.out.2.1;replace bA:=bA.below hN.out.2.1;replace HB:=aR HB hN.out.2.1;clear hN)|(refine vR rfl fY hA8 Ux rfl rfl ?_;intro w1 aH aB;replace aE:=aE.other aB (Nat.ne_of_lt Z4);replace bQ:=bQ.other aB (Nat.ne_of_lt amB);replace bA:=bA.other aB (Nat.ne_of_lt BF);replace HB:=bU HB aB.1 lgC;replace fY:=aH;clear aB aH)|(refine fF rfl aE jP qW.out.1 rfl ?_)|(refine eC 0 rfl fY _ rfl hA0 L9 ?_));have aoQ:=hid HB.out.size;refine(MR.out _ (HU.out.below (dR.out.trans (HB.out.mono rB))) ((HW.out.below dR.out HW.out.size).below HB.out (Nat.le_trans HW.out.size rB))).mono ?_;rintro e w5 ⟨aM,AI,rfl,hAI⟩;replace aE:=aE.below aM;replace bQ:=bQ.below aM;replace bA:=bA.below aM;replace fY:=fY.below aM;replace HB:=aR HB aM;have aeR:=aY.dH hAI;have HAI:=hid (Fo hAI (fun b=>v.ownBlock=some b∨b≤gR) (fun x _ hx=>Nat.lt_of_lt_of_le (hx.elim (fun h=>HO.out.free x h) (fun h=>Nat.lt_of_le_of_lt h HGR.out)) aoQ.out));have Cm:=HB;clear HB aM hAI MR;have HB:Hid (Below w5.heap.size w5 w5):=hid (Below.refl _ _);go_wp2_with (first|(refine eX rfl (Ae _) ?_;intro gI w2 kI hN;have afS:=fU aE hN;have afT:=fU bQ hN;have afU:=fU bA hN;have afV:=fU fY hN;have lgI:=jU HB hN;replace aE:=aE.below hN.out.2.1;replace bQ:=bQ.below hN.out.2.1;replace bA:=bA.below hN.out.2.1;replace fY:=fY.below hN.out.2.1;replace HB:=aR HB hN.out.2.1;clear hN)|(refine vR rfl kI aeR R52 rfl rfl ?_;intro w1 aH aB;replace aE:=aE.other aB (Nat.ne_of_lt afS);replace bQ:=bQ.other aB (Nat.ne_of_lt afT);replace bA:=bA.other aB (Nat.ne_of_lt afU);replace fY:=fY.other aB (Nat.ne_of_lt afV);replace HB:=bU HB aB.1 lgI;replace kI:=aH;clear aB aH)|(refine eC 1 rfl fY _ rfl hA1 NF ?_));refine(QP.out _ (DO.out.below (Cm.out.trans (HB.out.mono Cm.out.size)))).mono ?_;rintro e w6 ⟨pv,rfl,bE,aM⟩;have F7:=hid (bP.own (N:=fun b=>(v.ownBlock=some b∨b≤gR)∨b=gI) bE (fun x hx=>hx.elim (fun hx=>Nat.lt_of_lt_of_le (hx.elim (fun h=>HO.out.free x h) (fun h=>Nat.lt_of_le_of_lt h HGR.out)) (Nat.le_trans Cm.out.size HB.out.size)) (fun hx=>by rw[hx];exact kI.lt)));have Fp:pv.oneCell'=true:=(by obtain⟨x,y,rfl⟩:=F7.out.len;rfl);replace aE:=aE.below aM;replace bQ:=bQ.below aM;replace bA:=bA.below aM;replace fY:=fY.below aM;replace kI:=kI.below aM;replace HB:=aR HB aM;clear aM bE QP;have afW:BC 25 (AI.setIfInBounds 24 pv):=⟨by simp[aeR.1],by
    have h1:=aeR.2;rw[Array.all_eq_true'] at h1⊢;intro x hx;rcases Array.mem_or_eq_of_mem_setIfInBounds hx with h|h;·exact h1 x h
    ·rw[h];exact Fp⟩
   have HGL:Hid (gR < wL.heap.size):=hid HRR.out.lt;have GN:Hid (wL.heap.size≤wr.heap.size):=hid HS.out.1.size;go_wp2_with (first|(refine dS rfl 22 _ _ rfl gI 24 pv rfl rfl Fp kI (by rw[aeR.1];decide) (by kernel_rfl) ?_;intro w1 aH aB;replace aE:=aE.other aB (Nat.ne_of_lt afS);replace bQ:=bQ.other aB (Nat.ne_of_lt afT);replace bA:=bA.other aB (Nat.ne_of_lt afU);replace fY:=fY.other aB (Nat.ne_of_lt afV);replace F7:=hid (F7.out.save (bL.of aB) (.inr rfl));replace HB:=bU HB aB.1 lgI;replace kI:=aH;clear aB aH)|(refine eC 0 rfl bA v rfl rfl L41 ?_)|(refine Nj rfl 52 _ rfl _ 25 rfl kI _ Tryz.underlying52 rfl afW.1 (by kernel_rfl) ?_)|(refine jV rfl 41 52 _ rfl rfl i52 _ 25 Tryz.underlying41 JC JD JE (by decide) (by decide) afW.1 ?_;intro gS wS GW hN;replace aE:=aE.below hN.out.2.1;replace bQ:=bQ.below hN.out.2.1;replace bA:=bA.below hN.out.2.1;replace fY:=fY.below hN.out.2.1;replace kI:=kI.below hN.out.2.1;replace F7:=hid (F7.out.below hN.out.2.1);replace HB:=aR HB hN.out.2.1;clear hN;have Kl:=hid (HO.out.below (aY.aw gR) (Cm.out.trans (HB.out.mono Cm.out.size)));have HS8:=hid (HS.out.far (Nat.le_of_lt HGL.out) ((Cm.out.trans (HB.out.mono Cm.out.size)).mono GN.out));have ajC:=TJ (aY.keep HAI.out HB.out.size (fun b _ hl=>HB.out.block b hl)) (F7.out.lD (N':=fun b=>v.ownBlock=some b∨b≤gR) (fun x hx=> .inl hx)) (fun x hx=>hx))|(at_builtin;refine nB rfl _ _ 41 rfl rfl (aY.aw gR) i52 _ Tryz.underlying41 JC JD JE rfl (by decide) (by rw[Xo];decide) Kl.out rfl GW ajC (by omega) (HS8.out.1.size) ?_;intro v8 w8 hO9 rA;have MC:v8.oneCell'=true:=(by obtain⟨x,y,h,_⟩:=(hO9.read (aY.aw gR)).len;rw[h];rfl);have HO9:=hid hO9;have HS9:=hid (HS8.out.far (Nat.le_of_lt HGL.out) rA);have amC:=bA.keep rA HGL.out;clear hO9 rA)|(refine dS rfl 41 _ _ rfl gR 0 v8 rfl rfl MC amC rfl (by kernel_rfl) ?_;intro wE hrE heE;have HOE:=hid (HO9.out.oK aY (Nat.le_refl _) HGL.out (bL.of heE));have HSE:=hid (HS9.out.trans (bL.of heE));have Lq:=hid hrE;clear heE hrE));go_roundg (C.length - (k+1));case measure=>omega
   case rel=>exact⟨k+1,_,v8,rfl,by omega,by go_num,by rw[List.length_append];simp;omega,hid (by rw[Sn.out,←HA.out]),HOE,hid Lq.out,HSE⟩
  ·obtain rfl:k=C.length:=by omega
   have HX:Hid (acc=C.map f):=hid (by rw[HA.out,List.take_length]);have US:Hid (gR < wL.heap.size):=hid HRR.out.lt;have Nu:=rN.out.2.2.1;have oL:=rN.out.2.1;have tZ:=rN.out.1;have HB:=dR;obtain⟨va,vc,hv,_⟩:=(HO.out.read (aY.aw gR)).len;subst hv;clear HA bC dR;go_wp2_with (first|(refine fF rfl bA R43 rfl rfl ?_)|(refine lU rfl bQ rfl (by kernel_rfl) ?_;intro w1 aH aB;replace bA:=bA.other aB (Nat.ne_of_gt oL);replace HO:=hid (HO.out.oK aY (Nat.le_of_lt oL) US.out (bL.of aB));replace HB:=bU HB aB.1 Nu;replace bQ:=aH;clear aB aH));refine cR rfl 2 rfl bQ Tryz.underlying43 rfl rfl (by kernel_rfl) rfl ?_;rw[←HX.out];exact B4 HB.out HO.out rN.out.2.2.2 US.out
theorem QA {N0:Nat→Prop} {arr:Array Value} {b:bD} {w:World} (p:eH) (kind:Nat) (hk:kind≤3) (hb:cT N0 w arr b) (kZ:b.path.length≤10000000) (s:List UInt8) (hs:s.length≤1000000) (hW:Laid w):Calls Tryz.prog 20 #[.int .i64 kind,.agg arr,.string (aA s)] w fun e w'=>Cz (eP (R0 p) kind b s) w e w':=by
 have hi:∀s,nX (R0 p) b s=tR (kS J0 b (partsOf s)):=fun s=>by unfold nX tR R0;simp only;cases kS J0 b (partsOf s)<;>rfl
 unfold eP;simp only[hi]
 match kind,hk with
 |0,_=>exact TI hb kZ s hs hW
 |1,_=>exact Xn hb kZ s hs hW
 |2,_=>exact Xp hb kZ s hs hW
 |3,_=>
  simp only[if_true,if_false,show¬(3=1) by decide,show¬(3=2) by decide];show Calls Tryz.prog 20 #[.int .i64 3,.agg arr,.string (aA s)] w fun e w'=>Cz (match oA s with
   |none=>([],[])
   |some r=>if r.CE=true then([tR (kS J0 b (partsOf r.url))],r.xS) else([{right:=true,url:=b}],r.xS)) w e w'
  cases hr:oA s with
  |none=>exact CZ hb kZ s hs hr hW
  |some r=>
   simp only;by_cases hu:r.CE=true;·rw[if_pos hu];exact D3 hb kZ s hs r hr hu hW
   ·rw[if_neg hu];exact D4 hb kZ s hs r hr (by simpa using hu) hW
def LM (s:List UInt8):Bool:=s.all (fun c=> !aI c)&&(s !=[])&& !(s.head? ==some 44)&& !(s.getLast? ==some 44)
theorem amD:∀b1 b2 b3 c:Bool,c=(b1&& !b2&& !b3)→(b1=false∧c=false)∨(b1=true∧b2=true∧c=false)∨(b1=true∧b2=false∧c= !b3):=by decide
theorem Xq {N:Nat→Prop} {arr:Array Value} {u:bD} {w:World} (hb:cT N w arr u) (hlen:(aQ J0 u true).length≤100000000) (hW:Laid w):Calls Tryz.prog 37 #[.agg arr] w fun e w'=>e= .returned (.bool (LM (aQ J0 u true)))∧Below w.heap.size w w':=by
 have qW:=hid hb.dH;have DO:=hid (fun W (h1:cT N W arr u) hW=>Ac h1 true (by omega) (w:=W) hW);have HW:=hid hW;have HU:=hid hb;clear hW hb;generalize aQ J0 u true=s at*;have HB:Hid (Below w.heap.size w w):=hid (Below.refl _ _);have Oo:=hid (fun c w=>mE c w);have HZ:=hid (aD s);have HD:Hid (Hid (LM s=((s.drop 0).all (fun c=> !aI c)&&(s !=[])&& !(s.head? ==some 44)&& !(s.getLast? ==some 44)))):=hid (hid rfl);generalize LM s=R at*;go_enter Tryz.func37,Tryz.ntmps37;go_wp2_with (first|(refine jG (arr:=arr) rfl rfl ?_;intro gB w2 aE hN;replace HB:=aR HB hN.out.2.1;clear hN)|(refine fF rfl aE jP qW.out.1 rfl ?_));refine(DO.out _ (HU.out.below HB.out) (HW.out.below HB.out HW.out.size)).mono ?_;rintro e w3 ⟨rfl,cF⟩;replace HB:=aR HB cF;clear cF aE DO;go_wp2_with fail;go_loopw [4] (fun i wr=>∃k:Nat,i= .int .i64 (k:Int)∧k≤s.length∧Hid (R=((s.drop k).all (fun c=> !aI c)&&(s !=[])&& !(s.head? ==some 44)&& !(s.getLast? ==some 44)))∧w3=wr) (fun i _=>s.length - (intOf i).toNat);case atStart=>exact⟨0,rfl,Nat.zero_le _,HD.out,rfl⟩
 case round=>
  clear HD;obtain⟨k,rfl,mD,HF,rfl⟩:=hrel;have ME:k≤(aA s).size:=by rw[HZ.out];exact mD
  by_cases bC:k < s.length
  ·obtain⟨c,hd,hg⟩:=iM bC;have jY:k < (aA s).size:=by rw[HZ.out];exact bC
   have tL:=hg jY;have iE:c.toNat < 256:=c.toNat_lt;have C5:=hid (Oo.out c);cases nF:aI c with
   |true=>have HN:Hid (R=false):=hid (by rw[HF.out,hd,List.all_cons,nF];simp);rw[nF] at C5;clear hd hg HF nF;go_wp2_with fail;refine(C5.out _).mono ?_;rintro e w' ⟨rfl,rfl⟩;go_wp2_with fail;go_ret;exact⟨tT HN.out.symm,HB.out⟩
   |false=>
    have HN:Hid (R=((s.drop (k+1)).all (fun c=> !aI c)&&(s !=[])&& !(s.head? ==some 44)&& !(s.getLast? ==some 44))):=hid (by rw[HF.out,hd,List.all_cons,nF];simp);rw[nF] at C5;clear hd hg HF nF;go_wp2_with fail;refine(C5.out _).mono ?_;rintro e w' ⟨rfl,rfl⟩;go_wp2_with fail;go_roundw;case rel=>exact⟨k+1,by go_num,by omega,HN,by first|trivial|rfl⟩
    case measure=>simp[intOf];omega
  ·have An:(aA s).size≤k:=by rw[HZ.out];omega
   have HN:Hid (R=((s !=[])&& !(s.head? ==some 44)&& !(s.getLast? ==some 44))):=hid (by rw[HF.out,List.drop_of_length_le (by omega)];rfl);have HPR:=hid (fun W=>jT s [44] W);have HSU:=hid (fun W=>xC s [44] (by omega) W);rw[Ge] at HPR;rw[Gf] at HSU;have e1:(aA s).toList.isEmpty= !(s !=[]):=by rw[oJ];cases s<;>rfl
   have e2:decide (s.head? =some 44)=(s.head? ==some 44):=by cases s.head?<;>simp<;>rfl
   have e3:decide (s.getLast? =some 44)=(s.getLast? ==some 44):=by cases s.getLast?<;>simp<;>rfl
   rw[e2] at HPR;rw[e3] at HSU;clear bC HF e2 e3;generalize (s !=[])=b1 at*;generalize (s.head? ==some 44)=b2 at*;generalize (s.getLast? ==some 44)=b3 at*;rcases amD b1 b2 b3 R HN.out with⟨rfl,rfl⟩|⟨rfl,rfl,rfl⟩|⟨rfl,rfl,rfl⟩;all_goals simp only[Bool.not_true,Bool.not_false] at e1
   ·go_wp2_with fail;go_ret;exact⟨rfl,HB.out⟩
   ·go_wp2_with fail;refine(HPR.out _).mono ?_;rintro e w' ⟨rfl,rfl⟩;go_wp2_with fail;go_ret;exact⟨rfl,HB.out⟩
   ·go_wp2_with fail;refine(HPR.out _).mono ?_;rintro e w' ⟨rfl,rfl⟩;go_wp2_with fail;refine(HSU.out _).mono ?_;rintro e w' ⟨rfl,rfl⟩;go_wp2_with fail;go_ret;exact⟨rfl,HB.out⟩
theorem iF.parts {N:Nat→Prop} {w:World} {A:Array Value} {it:fV} (h:iF N w A it):A[0]? =some (.bool it.right)∧∃ua a c,(A.toList.drop 1).take 23=ua.toList∧cT N w ua it.url∧A[24]? =some (.slice a it.words.length c)∧bP N w (.slice a it.words.length c) it.words:=by
 obtain⟨ua,wv,rfl,hu,hp⟩:=h;have h23:=hu.dH.1;obtain⟨a,c,rfl⟩:=hp.len;refine⟨rfl,ua,a,c,?_,hu,?_,hp⟩;·simp only[uI,List.drop_succ_cons,List.drop_zero];rw[List.take_left' (by rw[Array.length_toList];exact h23)]
 ·obtain⟨l⟩:=ua;obtain⟨a0,a1,a2,a3,a4,a5,a6,a7,a8,a9,b0,b1,b2,b3,b4,b5,b6,b7,b8,b9,c0,c1,c2,rfl⟩:=Jx (by simpa using h23);rfl
def mV (L:List (List UInt8)):List UInt8:=L.flatMap fun w=>32::w
theorem QB {L:List (List UInt8)} {k:Nat} (h:k < L.length):mV (L.take (k+1))=mV (L.take k)++[32]++L[k]:=by unfold mV;rw[List.take_succ_eq_append_getElem h,List.flatMap_append];simp
theorem LN (L:List (List UInt8)) (k:Nat):(mV (L.take k)).length≤(mV L).length∧L.length≤(mV L).length:=by
 constructor
 ·unfold mV;conv=>rhs;rw[←List.take_append_drop k L,List.flatMap_append,List.length_append]
  omega
 ·induction L with
  |nil=>exact Nat.le_refl _
  |cons a r ih=>unfold mV at*;rw[List.flatMap_cons,List.length_append,List.length_cons,List.length_cons];omega
def qZ (l:List fV):List UInt8:=Ci (R0 ⟨[],[],[],0⟩) l
theorem TK (l:List fV) (it:fV):qZ (l++[it])=(if l=[] then[] else qZ l++[44,32])++aQ J0 it.url true++mV it.words:=by
 cases l with
 |nil=>simp[qZ,Ci,Rd,mV,R0]
 |cons a r=>simp[qZ,Ci,Rd,mV,R0,List.append_assoc]
theorem aaQ (l:List fV) (k:Nat):(qZ (l.take k)).length≤(qZ l).length:=by
 cases l with
 |nil=>simp
 |cons a r=>
  cases k with
  |zero=>simp[qZ,Ci]
  |succ k=>
   simp only[qZ,Ci,List.take_succ_cons];rw[List.length_append,List.length_append];conv=>rhs;rw[←List.take_append_drop k r,List.flatMap_append,List.length_append]
   omega
theorem Xr (l:List fV) (v:Value) (w:World) (hv:oW iF 52 25 w v l) (hn:l.length≤1000000) (hlen:(qZ l).length≤100000000) (hW:Laid w):Calls Tryz.prog 39 #[v] w fun e w'=>e= .returned (.string (aA (qZ l)))∧Below w.heap.size w w':=by
 have HW:=hid hW;have HV:=hid hv;have HLE:=hid (fun k=>Nat.le_trans (aaQ l k) hlen);have K5:=rX.fresh w;have sV:Below w.heap.size w (w.alloc (.cells #[.pointer none,.slice none 0 0] 65)):=(Below.refl _ _).alloc (Nat.le_refl _) _;have ID:=hid K5;have UA:=hid sV;have HR:Hid (qZ (l.take l.length)=qZ l):=hid (by rw[List.take_length]);obtain⟨A0,c0,Ee,_⟩:=hv.len;subst Ee;clear K5 sV hv hW hlen;go_enter Tryz.func39,Tryz.ntmps39;go_wp2_with fail;go_loopg [10] l.length (fun gk Na wr=>∃k:Nat,gk=l.length - k∧k≤l.length∧Na= .int .i64 (k:Int)∧Hid (rX wr w.heap.size w.heap.size (qZ (l.take k)))∧Hid (Below w.heap.size w wr));case atStart=>exact⟨0,rfl,Nat.zero_le _,rfl,ID,UA⟩
 case round=>
  clear ID UA;obtain⟨k,rfl,mD,rfl,jO,HB⟩:=hrel;by_cases bC:k < l.length
  ·have vA:(k:Int) < (l.length:Int):=by omega
   obtain⟨gc,c9,cur,A,tE,hc9,yR,hA,hdt,Fq⟩:=HV.out.at aY bC;injection tE with Nv _ Nw;subst Nv Nw;replace yR:=yR.below HB.out;obtain⟨_,ua,wa,wc,hua,hu,hwa,hp⟩:=hA.parts;have Ki:=HLE.out k;have La:=HLE.out (k+1);have HJ:=hid ((congrArg qZ (List.take_succ_eq_append_getElem bC)).trans (TK _ _));have Y2:(l.take k=[])=(k=0):=by
    have:(l.take k).length=k:=by rw[List.length_take];omega
    rw[←List.length_eq_zero_iff,this]
   generalize hck:l[k]'bC=it at*;obtain⟨right,url,ws⟩:=it;simp only[Y2] at hu hwa hp HJ;have Fp:=hu.dH;have hj:=congrArg List.length HJ.out;rw[List.length_append,List.length_append] at hj;have HWS:Hid ((aQ J0 url true).length≤100000000∧ws.length≤100000000∧∀j,(mV (ws.take j)).length≤100000000):=hid ⟨by omega,by have:=(LN ws 0).2;omega,fun j=>by have:=(LN ws j).1;omega⟩;have DO:=hid (fun W (h1:cT (fun _=>False) W ua url) hW=>Ac h1 true (show(aQ J0 url true).length≤500000000 by have:=HWS.out.1;omega) (w:=W) hW);generalize aQ J0 url true=wu at*;have HU:=hid hu;have HP:=hid hp.read;have dR:=HB;have HB:Hid (Below wr.heap.size wr wr):=hid (Below.refl _ _);have rB:=dR.out.size;clear hu hp hck hj;go_upto_if 16 with(first|(refine mU rfl 52 _ rfl gc (k*25) 25 rfl yR A hdt Fq.1 _ Tryz.underlying52 rfl (by kernel_rfl) ?_)|(refine eX rfl (Ae _) ?_;intro gI w2 kI hN;have lgI:=jU HB hN;replace HB:=aR HB hN.out.2.1;clear hN)|(refine vR rfl kI Fq R52 rfl rfl ?_;intro w1 aH aB;replace HB:=bU HB aB.1 lgI;replace kI:=aH;clear aB aH))
   replace jO:=hid (rX.below jO.out HB.out);replace HB:=bU dR HB.out rB;go_cut [] (fun wc=>Hid (rX wc w.heap.size w.heap.size (if k=0 then[] else qZ (l.take k)++[44,32]))∧Hid (Below w.heap.size w wc)∧Hid (Row wc gI 52 A));case first=>
    by_cases zO:k=0
    ·subst zO;have hz:decide ((0:Int) < ((0:Nat):Int))=false:=by decide
     go_wp2_with fail
     go_meet
     case rel=>exact⟨hid jO.out,HB,hid kI⟩
    ·have hkp:(0:Int) < (k:Int):=by omega
     go_wp2_with fail;refine(sE (t:=52) (by decide) (by decide) _ _ _ _ [44,32] jO.out (by simp only[List.length_cons,List.length_nil];omega) HB.out.size).mono ?_;rintro e w5 ⟨rfl,h5,aM,hk5⟩;replace jO:=hid h5;replace HB:=hid (HB.out.trans aM);have pJ:Row w5 gI 52 A:=hk5 _ _ _ kI;clear h5 aM hk5;go_wp2_with fail
     go_meet
     case rel=>exact⟨hid (by rw[if_neg zO];exact jO.out),HB,hid pJ⟩
   case rest=>
    obtain⟨Xs,cK,HRI⟩:=hcut;have kI:=HRI.out;have ajD:Hid ((if k=0 then[] else qZ (l.take k)++[44,32]).length≤100000002):=hid (by split<;>simp only[List.length_nil,List.length_append,List.length_cons]<;>omega);generalize (if k=0 then[] else qZ (l.take k)++[44,32])=pre at*;clear HRI jO HB yR Ki La;go_wp2_with (refine mU rfl 34 _ rfl gI 1 23 rfl kI ua hua Fp.1 _ Tryz.underlying34 rfl (by kernel_rfl) ?_);refine(DO.out _ (HU.out.below cK.out) (HW.out.below cK.out HW.out.size)).mono ?_;rintro e w5 ⟨rfl,aM⟩;replace Xs:=hid (rX.below Xs.out aM);replace cK:=aR cK aM;replace kI:=kI.below aM;clear aM DO;go_wp2_with fail;refine(sE (t:=52) (by decide) (by decide) _ _ _ _ wu Xs.out (by have:=ajD.out;have:=HWS.out.1;omega) cK.out.size).mono ?_;rintro e w6 ⟨rfl,h5,aM,hk5⟩;replace Xs:=hid h5;replace cK:=hid (cK.out.trans aM);replace kI:Row w6 gI 52 A:=hk5 _ _ _ kI;clear h5 aM hk5;have YB:=HWS.out.2.1;go_wp2_with (refine eC 24 rfl kI _ rfl hwa NF ?_);clear kI hwa hua Fp HU;go_loopg [25] ws.length (fun gj s25 wr2=>∃j:Nat,gj=ws.length - j∧j≤ws.length∧s25= .int .i64 (j:Int)∧Hid (rX wr2 w.heap.size w.heap.size (pre++wu++mV (ws.take j)))∧Hid (Below w.heap.size w wr2));case atStart=>exact⟨0,rfl,Nat.zero_le _,rfl,hid (by simpa[mV] using Xs.out),cK⟩
    case round=>
     clear Xs cK;obtain⟨j,rfl,hjl,rfl,WY,vC⟩:=hrel;by_cases hjt:j < ws.length
     ·have hjo:(j:Int) < (ws.length:Int):=by omega
      have XN:j < (ws.map aA).length:=by simpa using hjt
      obtain⟨gp,off,rfl,hc⟩:=(HP.out.below vC.out).cellAt XN;rw[List.getElem_map] at hc;have HT:=hid (QB hjt);have HL3:Hid ((pre++wu++mV (ws.take j)).length≤1000000000):=hid (by have:=ajD.out;have:=HWS.out.1;have:=HWS.out.2.2 j;simp only[List.length_append];omega);have HL4:Hid ((pre++wu++mV (ws.take j)).length+1+ws[j].length≤1000000000):=hid (by have:=ajD.out;have:=HWS.out.1;have h9:=HWS.out.2.2 (j+1);rw[HT.out] at h9;simp only[List.length_append,List.length_cons,List.length_nil] at h9⊢;omega);have HT2:Hid (pre++wu++mV (ws.take j)++[32]++ws[j]=pre++wu++mV (ws.take (j+1))):=hid (by rw[HT.out];simp[List.append_assoc]);generalize ws[j]'hjt=word at*;generalize pre++wu++mV (ws.take j)=out at*;clear HT XN;go_wp2_with fail;refine(iP _ _ _ out 32 rfl WY.out (by have:=HL3.out;omega) vC.out.size).mono ?_;rintro e w7 ⟨rfl,h5,aM⟩;replace WY:=hid h5;replace vC:=hid (vC.out.trans aM);clear h5 aM;go_wp2_with fail;refine(sE (t:=52) (by decide) (by decide) _ _ _ (out++[32]) word WY.out (by have:=HL4.out;simp only[List.length_append,List.length_cons,List.length_nil];omega) vC.out.size).mono ?_;rintro e w8 ⟨rfl,h5,aM,hk5⟩;have CR:=hid h5;replace vC:=hid (vC.out.trans aM);clear h5 aM hk5;go_wp2_with fail;go_roundg (ws.length - (j+1));case measure=>omega
      case rel=>exact⟨j+1,rfl,by omega,by go_num,hid (by rw[←HT2.out];exact CR.out),vC⟩
     ·obtain rfl:j=ws.length:=by omega
      have hjo:¬((ws.length:Int) < (ws.length:Int)):=by omega
      go_wp2_with fail;go_roundg (l.length - (k+1));case measure=>omega
      case rel=>exact⟨k+1,rfl,by omega,by go_num,hid (by rw[HJ.out];have:=WY.out;rwa[List.take_length] at this),vC⟩
  ·obtain rfl:k=l.length:=by omega
   have vA:¬((l.length:Int) < (l.length:Int)):=by omega
   rw[HR.out] at jO;clear HLE;go_wp2_with fail;refine(eU _ _ _ _ jO.out HB.out.size).mono ?_;rintro e w4 ⟨rfl,cG⟩;go_wp2_with fail;go_ret;exact⟨rfl,HB.out.trans cG⟩
theorem aaR {cur:List Value} {A ua:Array Value} (h:(cur.drop (0*25)).take 25=A.toList) (hu:(A.toList.drop 1).take 23=ua.toList):(cur.drop 1).take 23=ua.toList:=by rw[←hu,←h,Nat.zero_mul,List.drop_zero,List.drop_take,List.take_take];rfl
theorem TL (d u:List UInt8) (w:World):(Instr.build 86 #[(0,.string (aA d)),(1,.bool true),(2,.string (aA u))]).run Tryz.prog w= .ok (.agg (nO d true u)) w:=by kernel_rfl
theorem TM (p:eH) (kind:Nat) (hk:kind≤3) (l:List fV) (d:List UInt8) (v:Value) (w:World) (hv:oW iF 52 25 w v l) (hn:l.length≤1000000) (hlen:(mA (R0 p) kind l d).length≤100000000) (hW:Laid w):Calls Tryz.prog 17 #[.int .i64 kind,.agg #[v,.string (aA d)]] w fun e w'=>e= .returned (.string (aA (gW (mA (R0 p) kind l d))))∧Below w.heap.size w w':=by
 have HW:=hid hW;have HV:=hid hv;obtain⟨A0,c0,Ee,_⟩:=hv.len;subst Ee;have HB:Hid (Below w.heap.size w w):=hid (Below.refl _ _);have HES:=hid (fun(x:List UInt8) (h:x.length≤100000000) W=>MT (aA x) W (by rw[aD];exact h));cases l with
 |nil=>have he:gW (mA (R0 p) kind [] d)=[]:=rfl;rw[he];clear hv hW;go_enter Tryz.func17,Tryz.ntmps17;go_wp2_with (first|(refine jG rfl rfl ?_;intro gB w2 aE hN;replace HB:=aR HB hN.out.2.1;clear hN)|(refine eC 0 rfl aE _ rfl rfl L41 ?_));go_ret;exact⟨rfl,HB.out⟩
 |cons it r=>
  obtain⟨gc,c9,cur,A,tE,hc9,yR,hA,hdt,Fq⟩:=hv.at aY (show 0 < (it::r).length by simp);injection tE with Nv _ Nw;subst Nv Nw;obtain⟨_,ua,wa,wc,hua,hu,hwa,hp⟩:=hA.parts;have hpu:=aaR hdt hua;have hnp:0 < (it::r).length:=by simp
  have Kx:(((it::r).length:Int)==0)=false:=by simp;omega
  simp only[List.getElem_cons_zero] at hu;have HU:=hid hu;have Fp:=hu.dH;have amE:=hid yR;clear hv hW hwa hp hua hA hdt hu yR Fq
  match kind,hk with
  |0,_=>have he:mA (R0 p) 0 (it::r) d=[]:=rfl;rw[he];go_enter Tryz.func17,Tryz.ntmps17;go_wp2_with (first|(refine jG rfl rfl ?_;intro gB w2 aE hN;replace HB:=aR HB hN.out.2.1;clear hN)|(refine eC 0 rfl aE _ rfl rfl L41 ?_));go_ret;exact⟨rfl,HB.out⟩
  |1,_=>have he:mA (R0 p) 1 (it::r) d=aQ J0 it.url true:=rfl;rw[he] at hlen⊢;have DO:=hid (fun W (h1:cT (fun _=>False) W ua it.url) hW=>Ac h1 true (by omega) (w:=W) hW);have CP:=hid (fun W=>HES.out _ hlen W);generalize aQ J0 it.url true=wu at*;go_enter Tryz.func17,Tryz.ntmps17;go_wp2_with (first|(refine jG rfl rfl ?_;intro gB w2 aE hN;have yR:=amE.out.below hN.out.2.1;replace HB:=aR HB hN.out.2.1;clear hN)|(refine eC 0 rfl aE _ rfl rfl L41 ?_)|(refine mU rfl 34 _ rfl gc 1 23 rfl yR ua hpu Fp.1 _ Tryz.underlying34 rfl (by kernel_rfl) ?_));refine(DO.out _ (HU.out.below HB.out) (HW.out.below HB.out HW.out.size)).mono ?_;rintro e w5 ⟨rfl,aM⟩;replace HB:=aR HB aM;go_wp2_with fail;refine(CP.out _).mono ?_;rintro e w6 ⟨rfl,fH⟩;replace HB:=aR HB fH;go_wp2_with fail;go_ret;exact⟨nM (by rw[aC]),HB.out⟩
  |2,_=>have he:mA (R0 p) 2 (it::r) d=qZ (it::r):=rfl;rw[he] at hlen⊢;have HLI:=hid (fun W (h:oW iF 52 25 W (.slice (some ⟨gc,0,none⟩) (it::r).length c0) (it::r)) hW=>Xr (it::r) _ W h hn hlen hW);have CP:=hid (fun W=>HES.out _ hlen W);generalize qZ (it::r)=wu at*;go_enter Tryz.func17,Tryz.ntmps17;go_wp2_with (first|(refine jG rfl rfl ?_;intro gB w2 aE hN;replace HB:=aR HB hN.out.2.1;clear hN)|(refine eC 0 rfl aE _ rfl rfl L41 ?_));refine(HLI.out _ (HV.out.below aY HB.out) (HW.out.below HB.out HW.out.size)).mono ?_;rintro e w5 ⟨rfl,aM⟩;replace HB:=aR HB aM;go_wp2_with fail;refine(CP.out _).mono ?_;rintro e w6 ⟨rfl,fH⟩;replace HB:=aR HB fH;go_wp2_with fail;go_ret;exact⟨nM (by rw[aC]),HB.out⟩
  |3,_=>have he:mA (R0 p) 3 (it::r) d=d++U6++aQ J0 it.url true:=rfl;rw[he] at hlen⊢;have Zy:=hlen;rw[List.length_append,List.length_append] at Zy;have DO:=hid (fun W (h1:cT (fun _=>False) W ua it.url) hW=>Ac h1 true (by omega) (w:=W) hW);have CP:=hid (fun W=>HES.out _ hlen W);have HRW:=hid (fun W=>KD d true (aQ J0 it.url true) (by omega) (by omega) W);unfold afQ at HRW;simp only[if_true] at HRW;generalize d++U6++aQ J0 it.url true=wx at*;generalize aQ J0 it.url true=wu at*;clear Zy;go_enter Tryz.func17,Tryz.ntmps17;go_wp2_with (first|(refine jG rfl rfl ?_;intro gB w2 aE hN;have yR:=amE.out.below hN.out.2.1;replace HB:=aR HB hN.out.2.1;clear hN)|(refine eC 0 rfl aE _ rfl rfl L41 ?_)|(refine mU rfl 34 _ rfl gc 1 23 rfl yR ua hpu Fp.1 _ Tryz.underlying34 rfl (by kernel_rfl) ?_));refine(DO.out _ (HU.out.below HB.out) (HW.out.below HB.out HW.out.size)).mono ?_;rintro e w5 ⟨rfl,aM⟩;replace HB:=aR HB aM;replace aE:=aE.below aM;go_wp2_with (first|(refine eC 1 rfl aE _ rfl rfl L9 ?_)|(refine aG rfl 86 _ rfl _ (.agg (nO d true wu)) (TL _ _ _) ?_));refine(HRW.out _).mono ?_;rintro e w6 ⟨rfl,fH⟩;replace HB:=aR HB fH;go_wp2_with fail;refine(CP.out _).mono ?_;rintro e w7 ⟨rfl,Nt⟩;replace HB:=aR HB Nt;go_wp2_with fail;go_ret;exact⟨nM (by rw[aC]),HB.out⟩
theorem Nx {N:Nat→Prop} {A:Array Value} {it:fV} {w:World} (h:iF N w A it):Calls Tryz.prog 15 #[.agg A] w fun e w'=>e= .returned (.bool it.right)∧Below w.heap.size w w':=by have h0:=h.parts.1;have HB:Hid (Below w.heap.size w w):=hid (Below.refl _ _);clear h;go_enter Tryz.func15,Tryz.ntmps15;go_wp2_with (first|(refine jG (arr:=A) rfl rfl ?_;intro gB w2 aE hN;replace HB:=aR HB hN.out.2.1;clear hN)|(refine eC 0 rfl aE _ rfl h0 L4 ?_));go_ret;exact⟨rfl,HB.out⟩
theorem QC (l:List fV) (v:Value) (w:World) (hv:oW iF 52 25 w v l) (hn:l.length≤1000000):Calls Tryz.prog 33 #[v,.func (.func 15) #[] #[]] w fun e w'=>(∃n:Int,e= .returned (.int .i64 n)∧decide (0≤n)=l.any (·.right))∧Below w.heap.size w w':=by
 have HV:=hid hv;have HR:Hid (Hid (l.any (·.right)=(l.drop 0).any (·.right))):=hid (hid rfl);generalize l.any (·.right)=R at*;obtain⟨A0,c0,Ee,_⟩:=hv.len;subst Ee;clear hv;go_enter Tryz.func33,Tryz.ntmps33;go_wp2_with fail;go_loopg [8] l.length (fun gk s8 wr=>∃k:Nat,gk=l.length - k∧k≤l.length∧s8= .int .i64 (k:Int)∧Hid (R=(l.drop k).any (·.right))∧Hid (Below w.heap.size w wr));case atStart=>exact⟨0,rfl,Nat.zero_le _,rfl,HR.out,hid (Below.refl _ _)⟩
 case round=>
  clear HR;obtain⟨k,rfl,mD,rfl,HF,HB⟩:=hrel;by_cases bC:k < l.length
  ·have vA:(k:Int) < (l.length:Int):=by omega
   obtain⟨gc,c9,cur,A,tE,hc9,yR,hA,hdt,Fq⟩:=(HV.out.below aY HB.out).at aY bC;injection tE with Nv _ Nw;subst Nv Nw;have hd:=List.drop_eq_getElem_cons bC;generalize l[k]'bC=it at*;have HC:=hid (Nx hA);have HN:Hid (R=(it.right||(l.drop (k+1)).any (·.right))):=hid (by rw[HF.out,hd,List.any_cons]);generalize it.right=b at*;clear hd HF hA;go_wp2_with (refine mU rfl 52 _ rfl gc (k*25) 25 rfl yR A hdt Fq.1 _ Tryz.underlying52 rfl (by kernel_rfl) ?_);refine HC.out.mono ?_;rintro e w5 ⟨rfl,aM⟩;replace HB:=aR HB aM;clear aM HC;cases b with
   |true=>go_wp2_with fail;go_ret;exact⟨⟨k,rfl,by rw[HN.out];simp⟩,HB.out⟩
   |false=>
    go_wp2_with fail;go_roundg (l.length - (k+1));case measure=>omega
    case rel=>exact⟨k+1,rfl,by omega,by go_num,hid (by rw[HN.out];rfl),HB⟩
  ·obtain rfl:k=l.length:=by omega
   have vA:¬((l.length:Int) < (l.length:Int)):=by omega
   have HN:Hid (R=false):=hid (by rw[HF.out,List.drop_length];rfl);go_wp2_with fail;go_ret;exact⟨⟨-1,rfl,by rw[HN.out];decide⟩,HB.out⟩
theorem JF (l:List fV) (v:Value) (w:World) (hv:oW iF 52 25 w v l) (hn:l.length≤1000000):Calls Tryz.prog 14 #[v,.func (.func 15) #[] #[]] w fun e w'=>e= .returned (.bool (l.any (·.right)))∧Below w.heap.size w w':=by have HI:=hid (QC l v w hv hn);generalize l.any (·.right)=R at*;obtain⟨A0,c0,Ee,_⟩:=hv.len;subst Ee;clear hv;go_enter Tryz.func14,Tryz.ntmps14;go_wp2_with fail;refine HI.out.mono ?_;rintro e w5 ⟨⟨n,rfl,hd⟩,aM⟩;have HD:=hid hd;clear hd;go_wp2_with fail;go_ret;exact⟨tT HD.out,aM⟩
def Ag (k y:Int) (out:List UInt8):Array Value:= #[.int .i64 k,.int .i64 y,.string (aA out)]
theorem B5 (w:World) (uX:Value):(Instr.alloc 38 true uX).run Tryz.prog w= .ok (.pointer (some ⟨w.heap.size,0,none⟩)) (w.alloc (.cells (Ag 0 0 []) 38)):=by kernel_rfl
theorem TN (w:World):(Instr.build 38 #[(0,.int .i64 1)]).run Tryz.prog w= .ok (.agg (Ag 1 0 [])) w:=by kernel_rfl
theorem TO (out:List UInt8) (w:World):(Instr.build 38 #[(0,.int .i64 3),(2,.string (aA out))]).run Tryz.prog w= .ok (.agg (Ag 3 0 out)) w:=by kernel_rfl
theorem QE (y:Int) (w:World):Calls Tryz.prog 12 #[.int .i64 y] w fun e w'=>e= .returned (.agg (Ag 2 y []))∧Below w.heap.size w w':=by go_enter Tryz.func12,Tryz.ntmps12;go_wp2_with fail;refine bK rfl rfl (Row.new _ _ _) Tryz.underlying38 rfl (by kernel_rfl) rfl ?_;exact⟨rfl,(Below.refl _ _).alloc (Nat.le_refl _) _⟩
end Go.Proofs.YtmgmclkplepapaaGreatDoor
