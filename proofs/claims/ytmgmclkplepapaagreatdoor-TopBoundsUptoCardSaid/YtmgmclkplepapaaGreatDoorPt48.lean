/- Part of the proof of TopBoundsUptoCardSaid. Conditions: none beyond the statement. -/
import Derived.Test.YtmgmclkplepapaaGreatDoorPt47
set_option linter.all false
set_option maxRecDepth 100000
set_option maxHeartbeats 64000000
namespace Go.Proofs.YtmgmclkplepapaaGreatDoor
open Go.RowKit
theorem D6 (D:List (List UInt8)→Bool):∀(n:Nat) (l:List UInt8),(gG D n l).length≤l.length:=by
 intro n;induction n with
 |zero=>intro l;rw[gG];simp
 |succ n ih=>
  intro l;rw[gG];simp only;by_cases ha:(l.dropWhile fun c=>c==44||aI c)=[];·rw[if_pos ha];simp
  ·rw[if_neg ha];have h1:=bW (fun c=>c==44||aI c) l;have h2:=UQ LK l ha;generalize (l.dropWhile fun c=>c==44||aI c)=a at*;have h3:=congrArg List.length (List.takeWhile_append_dropWhile (p:=fun c=> !aI c) (l:=a));rw[List.length_append] at h3;generalize (a.takeWhile fun c=> !aI c)=url at*;generalize (a.dropWhile fun c=> !aI c)=r at*;have h4:=ih r;obtain⟨j,h5,h6⟩:=BH r.length r;have h7:=ih ((bV r).2.drop 1);have h8:(bV r).2.length≤r.length:=by unfold bV;rw[h6,List.length_drop];omega
   rw[List.length_drop] at h7
   repeat' split
   all_goals(try simp only[List.length_cons])
   all_goals omega
theorem LM {L:List AN} {c:AN} (h:c∈L):c.url.length≤oY L∧c.words.length≤oY L:=by
 induction L with
 |nil=>exact absurd h (by simp)
 |cons a r ih=>
  have he:oY (a::r)=a.url.length+lD a.words+oY r:=by simp[oY,KS]
  rw[he];rcases List.mem_cons.1 h with rfl|h;·have:=(@LJ c.words).1;omega
  ·have:=ih h;omega
theorem BF.cells {N:Nat→Prop} {w:World} {arr:Array Value} {url:List UInt8} {words:List (List UInt8)} (h:BF N w arr url words):arr[0]? =some (.string (aA url))∧∃a c,arr[1]? =some (.slice a words.length c)∧bT w (.slice a words.length c) (words.map aA):=by obtain⟨c,wv,rfl,hp⟩:=h;obtain⟨a,c',rfl⟩:=hp.len;exact⟨rfl,a,c',rfl,hp.read⟩
theorem TK {N N':Nat→Prop} {w:World} {A:Array Value} {it:fV} (h:iG N w A it) {v:Value} {L:List (List UInt8)} (hv:bP N' w v L) (hn:∀x,N' x→N x):iG N' w (A.setIfInBounds 24 v) {it with words:=L}:=by obtain⟨ua,wv,rfl,hu,hp⟩:=h;refine⟨ua,v,?_,hu.lE hn,hv⟩;have h23:=hu.dH.1;obtain⟨l⟩:=ua;obtain⟨a0,a1,a2,a3,a4,a5,a6,a7,a8,a9,b0,b1,b2,b3,b4,b5,b6,b7,b8,b9,c0,c1,c2,rfl⟩:=Jy (by simpa using h23);rfl
theorem mV {ops:Array Oper} {rest:List Oper} {o:Oper} {a:Act} {Q:Exit→Act→World→Prop} {w:World} (tK:o.guard=none) (ty:TypeId) (x:Operand) (ho:o.op= .load ty x) (g i n:Nat) (hx:a.eval x= .pointer (some ⟨g,i,none⟩)) {t:TypeId} {cur:Array Value} (hR:Row w g t cur) (A:Array Value) (AB:(cur.toList.drop i).take n=A.toList) (hA:A.size=n) (d:TypeDesc)
 (hu:Tryz.prog.underlying ty=some d) (hd:d.isRow=true) (hi:(Tryz.prog.info? ty).map (·.size)=some n)
 (h:wpList Tryz.prog ops Q rest (a.put o.dst (.agg A)) w):wpList Tryz.prog ops Q (o::rest) a w:=
 fO tK ty x ho g i hx hR A.toList (by rw[Array.length_toList,hA];exact AB) d hu hd (by rw[Array.length_toList,hA];exact hi) h
theorem Xq {N0:Nat→Prop} {arr:Array Value} {b:bD} {w:World} (hb:cT N0 w arr b) (lA:b.path.length≤10000000) (s:List UInt8) (hs:s.length≤1000000) (hW:Laid w):Calls Tryz.prog 20 #[.int .i64 2,.agg arr,.string (aA s)] w fun e w'=>CA ((qG mC s).map fun c=>{tS (kU J0 b (partsOf c.url)) with words:=c.words},[]) w e w':=by
 have HW:=hid hW;have HU:=hid hb;have qX:=hid hb.dH;have CO:=hid (fun W hW=>Nt s hs W hW);have Kg:=hid (fun(c:AN) (h:c∈qG mC s)=>(show c.url.length≤5000000∧c.words.length≤1000000000 from by have:=LM h;have:=CE mC s;omega));have hcn:=D6 mC s.length s;have HCN:Hid ((qG mC s).length≤1000000):=hid (Nat.le_trans hcn hs);have HI:=hid (fun W h s hs hW=>CZ (N0:=N0) (w:=W) (arr:=arr) (b:=b) h lA s hs hW);obtain⟨i52,JD,JE,JF,Xp⟩:=BJ;obtain⟨f,hf⟩:∃f:AN→fV,f=fun c=>{tS (kU J0 b (partsOf c.url)) with words:=c.words}:=⟨_,rfl⟩;have HF:Hid (∀c,f c={tS (kU J0 b (partsOf c.url)) with words:=c.words}):=hid (fun c=>by rw[hf]);rw[←hf];generalize qG mC s=C at*;have HB:Hid (Below w.heap.size w w):=hid (Below.refl _ _);clear hb hW hcn hf;go_enter Tryz.func20,Tryz.ntmps20;go_wp2_with (first|(refine jH (arr:=arr) rfl rfl ?_;intro gB w2 aE hN;have Kz:=jV HB hN;replace HB:=aR HB hN.out.2.1;clear hN)|(refine eX (d:=6) rfl (eS _) ?_;intro gO w2 bQ hN;have yR:=fU aE hN;have Nv:=jV HB hN;replace aE:=aE.below hN.out.2.1;replace HB:=aR HB hN.out.2.1;clear hN)|(refine eX (d:=7) rfl (eS _) ?_;intro gR w2 bA hN;have uA:=fU aE hN;have oM:=fU bQ hN;have Gd:=jV HB hN;replace aE:=aE.below hN.out.2.1;replace bQ:=bQ.below hN.out.2.1;replace HB:=aR HB hN.out.2.1;clear hN));refine(CO.out _ (HW.out.below HB.out HW.out.size)).mono ?_;rintro e wL ⟨cv,rfl,G3,aM⟩;have HC0:=hid ((G3.LI jE (Nat.le_of_lt bA.lt)).mono (base':=gR+1) (Nat.le_succ_of_le bA.lt));replace aE:=aE.below aM;replace bQ:=bQ.below aM;replace bA:=bA.below aM;replace HB:=aR HB aM;have HRB:=hid aE;have HRO:=hid bQ;have HRR:=hid bA;have IE:=HB;have rO:Hid (gB < gR∧gO < gR∧w.heap.size≤gO∧w.heap.size≤gR):=hid ⟨uA,oM,Nv,Gd⟩;obtain⟨Av,cc,aoQ,_⟩:=(G3.read (jE.aw _)).len;subst aoQ;clear aM G3 aE bQ bA uA oM yR Kz Nv Gd CO HB;go_wp2_with fail;go_loopg [27] C.length (fun gk s27 wr=>∃(k:Nat) (acc:List fV) (v:Value),gk=C.length - k∧k≤C.length∧s27= .int .i64 (k:Int)∧acc.length≤k∧Hid (acc=(C.take k).map f)∧Hid (jG (Aw gR iG) 52 25 wr wL.heap.size v acc)∧Hid (Row wr gR 43 #[v,.string (aA [])])∧Hid (bL gR wL wr));case atStart=>exact⟨0,[],_,rfl,Nat.zero_le _,rfl,Nat.le_refl _,hid rfl,hid jG.nil,HRR,hid (bL.refl _ _)⟩
 case round=>
  obtain⟨k,acc,v,rfl,hkC,rfl,hal,HA,HO,amB,HS⟩:=hrel;have bA:=amB.out;have aE:Row _ gB 34 arr:=(HS.out.2 gB (Nat.ne_of_lt rO.out.1) HRB.out.lt).trans HRB.out;have bQ:Row _ gO 43 _:=(HS.out.2 gO (Nat.ne_of_lt rO.out.2.1) HRO.out.lt).trans HRO.out;have HC:=hid (HC0.out.oL jE (Nat.le_refl _) (Nat.lt_succ_self _) HS.out);have dR:=hid (IE.out.trans (HS.out.1.mono rO.out.2.2.2));have hcn:=HCN.out;clear amB;by_cases bC:k < C.length
  ·have vB:(k:Int) < (C.length:Int):=by omega
   obtain⟨gc,c9,cur,A,tF,hc9,yS,hA,hdt,hA8⟩:=(HC.out.read (jE.aw gR)).at (jE.aw gR) bC;injection tF with Nw _ Nx;subst Nw Nx;have Sp:Hid ((C.take (k+1)).map f=(C.take k).map f++[f C[k]]):=hid (by rw[List.take_succ_eq_append_getElem bC,List.map_append];rfl);have iW:=Kg.out _ (List.getElem_mem bC);have hfk:=HF.out C[k];generalize hck:C[k]'bC=ck at*;rw[hfk] at Sp;obtain⟨url,ws⟩:=ck;obtain⟨hA0,wa,wc,hA1,Wh⟩:=BF.cells hA;simp only at hA0 hA1 Wh iW Sp;obtain⟨hu1,hu2⟩:=iW;have MS:=hid (fun W h hW=>HI.out W h url hu1 hW);have QQ:=hid (fun W h=>pX (.slice wa ws.length wc) ws W h hu2);have DP:=hid Wh;generalize tS (kU J0 b (partsOf url))=it at*;have HRC:Hid (Below wr.heap.size wr wr):=hid (Below.refl _ _);clear hfk hck hA Wh hu1 hu2;have HGR:=hid bA.lt;have HB:=HRC;have rC:=dR.out.size;go_wp2_with (first|(refine mV rfl 92 _ rfl gc (k*8) 8 rfl yS A hdt hA8.1 _ Tryz.underlying92 rfl (by kernel_rfl) ?_)|(refine eX rfl (mU _) ?_;intro gC w2 fY hN;have Z5:=fU aE hN;have amC:=fU bQ hN;have BG:=fU bA hN;have lgC:=jV HB hN;replace aE:=aE.below hN.out.2.1;replace bQ:=bQ.below hN.out.2.1;replace bA:=bA.below hN.out.2.1;replace HB:=aR HB hN.out.2.1;clear hN)|(refine vS rfl fY hA8 Uy rfl rfl ?_;intro w1 aH aB;replace aE:=aE.other aB (Nat.ne_of_lt Z5);replace bQ:=bQ.other aB (Nat.ne_of_lt amC);replace bA:=bA.other aB (Nat.ne_of_lt BG);replace HB:=bU HB aB.1 lgC;replace fY:=aH;clear aB aH)|(refine fF rfl aE jQ qX.out.1 rfl ?_)|(refine eC 0 rfl fY _ rfl hA0 L9 ?_));have aoR:=hid HB.out.size;refine(MS.out _ (HU.out.below (dR.out.trans (HB.out.mono rC))) ((HW.out.below dR.out HW.out.size).below HB.out (Nat.le_trans HW.out.size rC))).mono ?_;rintro e w5 ⟨aM,AI,rfl,hAI⟩;replace aE:=aE.below aM;replace bQ:=bQ.below aM;replace bA:=bA.below aM;replace fY:=fY.below aM;replace HB:=aR HB aM;have aeS:=aY.dH hAI;have HAI:=hid (Fp hAI (fun b=>v.ownBlock=some b∨b≤gR) (fun x _ hx=>Nat.lt_of_lt_of_le (hx.elim (fun h=>HO.out.free x h) (fun h=>Nat.lt_of_le_of_lt h HGR.out)) aoR.out));have Cn:=HB;clear HB aM hAI MS;have HB:Hid (Below w5.heap.size w5 w5):=hid (Below.refl _ _);go_wp2_with (first|(refine eX rfl (Af _) ?_;intro gI w2 kJ hN;have afT:=fU aE hN;have afU:=fU bQ hN;have afV:=fU bA hN;have afW:=fU fY hN;have lgI:=jV HB hN;replace aE:=aE.below hN.out.2.1;replace bQ:=bQ.below hN.out.2.1;replace bA:=bA.below hN.out.2.1;replace fY:=fY.below hN.out.2.1;replace HB:=aR HB hN.out.2.1;clear hN)|(refine vS rfl kJ aeS R52 rfl rfl ?_;intro w1 aH aB;replace aE:=aE.other aB (Nat.ne_of_lt afT);replace bQ:=bQ.other aB (Nat.ne_of_lt afU);replace bA:=bA.other aB (Nat.ne_of_lt afV);replace fY:=fY.other aB (Nat.ne_of_lt afW);replace HB:=bU HB aB.1 lgI;replace kJ:=aH;clear aB aH)|(refine eC 1 rfl fY _ rfl hA1 NG ?_));refine(QQ.out _ (DP.out.below (Cn.out.trans (HB.out.mono Cn.out.size)))).mono ?_;rintro e w6 ⟨pv,rfl,bE,aM⟩;have F8:=hid (bP.own (N:=fun b=>(v.ownBlock=some b∨b≤gR)∨b=gI) bE (fun x hx=>hx.elim (fun hx=>Nat.lt_of_lt_of_le (hx.elim (fun h=>HO.out.free x h) (fun h=>Nat.lt_of_le_of_lt h HGR.out)) (Nat.le_trans Cn.out.size HB.out.size)) (fun hx=>by rw[hx];exact kJ.lt)));have Fq:pv.oneCell'=true:=(by obtain⟨x,y,rfl⟩:=F8.out.len;rfl);replace aE:=aE.below aM;replace bQ:=bQ.below aM;replace bA:=bA.below aM;replace fY:=fY.below aM;replace kJ:=kJ.below aM;replace HB:=aR HB aM;clear aM bE QQ;have afX:BD 25 (AI.setIfInBounds 24 pv):=⟨by simp[aeS.1],by
    have h1:=aeS.2;rw[Array.all_eq_true'] at h1⊢;intro x hx;rcases Array.mem_or_eq_of_mem_setIfInBounds hx with h|h;·exact h1 x h
    ·rw[h];exact Fq⟩
   have HGL:Hid (gR < wL.heap.size):=hid HRR.out.lt;have GO:Hid (wL.heap.size≤wr.heap.size):=hid HS.out.1.size;go_wp2_with (first|(refine dS rfl 22 _ _ rfl gI 24 pv rfl rfl Fq kJ (by rw[aeS.1];decide) (by kernel_rfl) ?_;intro w1 aH aB;replace aE:=aE.other aB (Nat.ne_of_lt afT);replace bQ:=bQ.other aB (Nat.ne_of_lt afU);replace bA:=bA.other aB (Nat.ne_of_lt afV);replace fY:=fY.other aB (Nat.ne_of_lt afW);replace F8:=hid (F8.out.save (bL.of aB) (.inr rfl));replace HB:=bU HB aB.1 lgI;replace kJ:=aH;clear aB aH)|(refine eC 0 rfl bA v rfl rfl L41 ?_)|(refine Nk rfl 52 _ rfl _ 25 rfl kJ _ Tryz.underlying52 rfl afX.1 (by kernel_rfl) ?_)|(refine jW rfl 41 52 _ rfl rfl i52 _ 25 Tryz.underlying41 JD JE JF (by decide) (by decide) afX.1 ?_;intro gS wS GX hN;replace aE:=aE.below hN.out.2.1;replace bQ:=bQ.below hN.out.2.1;replace bA:=bA.below hN.out.2.1;replace fY:=fY.below hN.out.2.1;replace kJ:=kJ.below hN.out.2.1;replace F8:=hid (F8.out.below hN.out.2.1);replace HB:=aR HB hN.out.2.1;clear hN;have Km:=hid (HO.out.below (aY.aw gR) (Cn.out.trans (HB.out.mono Cn.out.size)));have HS8:=hid (HS.out.far (Nat.le_of_lt HGL.out) ((Cn.out.trans (HB.out.mono Cn.out.size)).mono GO.out));have ajD:=TK (aY.keep HAI.out HB.out.size (fun b _ hl=>HB.out.block b hl)) (F8.out.lE (N':=fun b=>v.ownBlock=some b∨b≤gR) (fun x hx=> .inl hx)) (fun x hx=>hx))|(at_builtin;refine nC rfl _ _ 41 rfl rfl (aY.aw gR) i52 _ Tryz.underlying41 JD JE JF rfl (by decide) (by rw[Xp];decide) Km.out rfl GX ajD (by omega) (HS8.out.1.size) ?_;intro v8 w8 hO9 rB;have MD:v8.oneCell'=true:=(by obtain⟨x,y,h,_⟩:=(hO9.read (aY.aw gR)).len;rw[h];rfl);have HO9:=hid hO9;have HS9:=hid (HS8.out.far (Nat.le_of_lt HGL.out) rB);have amD:=bA.keep rB HGL.out;clear hO9 rB)|(refine dS rfl 41 _ _ rfl gR 0 v8 rfl rfl MD amD rfl (by kernel_rfl) ?_;intro wE hrE heE;have HOE:=hid (HO9.out.oL aY (Nat.le_refl _) HGL.out (bL.of heE));have HSE:=hid (HS9.out.trans (bL.of heE));have Lr:=hid hrE;clear heE hrE));go_roundg (C.length - (k+1));case measure=>omega
   case rel=>exact⟨k+1,_,v8,rfl,by omega,by go_num,by rw[List.length_append];simp;omega,hid (by rw[Sp.out,←HA.out]),HOE,hid Lr.out,HSE⟩
  ·obtain rfl:k=C.length:=by omega
   have HX:Hid (acc=C.map f):=hid (by rw[HA.out,List.take_length]);have UT:Hid (gR < wL.heap.size):=hid HRR.out.lt;have Nv:=rO.out.2.2.1;have oM:=rO.out.2.1;have uA:=rO.out.1;have HB:=dR;obtain⟨va,vc,hv,_⟩:=(HO.out.read (aY.aw gR)).len;subst hv;clear HA bC dR;go_wp2_with (first|(refine fF rfl bA R43 rfl rfl ?_)|(refine lV rfl bQ rfl (by kernel_rfl) ?_;intro w1 aH aB;replace bA:=bA.other aB (Nat.ne_of_gt oM);replace HO:=hid (HO.out.oL aY (Nat.le_of_lt oM) UT.out (bL.of aB));replace HB:=bU HB aB.1 Nv;replace bQ:=aH;clear aB aH));refine cR rfl 2 rfl bQ Tryz.underlying43 rfl rfl (by kernel_rfl) rfl ?_;rw[←HX.out];exact B5 HB.out HO.out rO.out.2.2.2 UT.out
theorem QB {N0:Nat→Prop} {arr:Array Value} {b:bD} {w:World} (p:eH) (kind:Nat) (hk:kind≤3) (hb:cT N0 w arr b) (lA:b.path.length≤10000000) (s:List UInt8) (hs:s.length≤1000000) (hW:Laid w):Calls Tryz.prog 20 #[.int .i64 kind,.agg arr,.string (aA s)] w fun e w'=>CA (eP (R0 p) kind b s) w e w':=by
 have hi:∀s,nY (R0 p) b s=tS (kU J0 b (partsOf s)):=fun s=>by unfold nY tS R0;simp only;cases kU J0 b (partsOf s)<;>rfl
 unfold eP;simp only[hi]
 match kind,hk with
 |0,_=>exact TJ hb lA s hs hW
 |1,_=>exact Xo hb lA s hs hW
 |2,_=>exact Xq hb lA s hs hW
 |3,_=>
  simp only[if_true,if_false,show¬(3=1) by decide,show¬(3=2) by decide];show Calls Tryz.prog 20 #[.int .i64 3,.agg arr,.string (aA s)] w fun e w'=>CA (match oB s with
   |none=>([],[])
   |some r=>if r.CF=true then([tS (kU J0 b (partsOf r.url))],r.xT) else([{right:=true,url:=b}],r.xT)) w e w'
  cases hr:oB s with
  |none=>exact C1 hb lA s hs hr hW
  |some r=>
   simp only;by_cases hu:r.CF=true;·rw[if_pos hu];exact D4 hb lA s hs r hr hu hW
   ·rw[if_neg hu];exact D5 hb lA s hs r hr (by simpa using hu) hW
def LN (s:List UInt8):Bool:=s.all (fun c=> !aI c)&&(s !=[])&& !(s.head? ==some 44)&& !(s.getLast? ==some 44)
theorem amE:∀b1 b2 b3 c:Bool,c=(b1&& !b2&& !b3)→(b1=false∧c=false)∨(b1=true∧b2=true∧c=false)∨(b1=true∧b2=false∧c= !b3):=by decide
theorem Xr {N:Nat→Prop} {arr:Array Value} {u:bD} {w:World} (hb:cT N w arr u) (hlen:(aQ J0 u true).length≤100000000) (hW:Laid w):Calls Tryz.prog 37 #[.agg arr] w fun e w'=>e= .returned (.bool (LN (aQ J0 u true)))∧Below w.heap.size w w':=by
 have qX:=hid hb.dH;have DP:=hid (fun W (h1:cT N W arr u) hW=>Ad h1 true (by omega) (w:=W) hW);have HW:=hid hW;have HU:=hid hb;clear hW hb;generalize aQ J0 u true=s at*;have HB:Hid (Below w.heap.size w w):=hid (Below.refl _ _);have Oq:=hid (fun c w=>mF c w);have HZ:=hid (aD s);have HD:Hid (Hid (LN s=((s.drop 0).all (fun c=> !aI c)&&(s !=[])&& !(s.head? ==some 44)&& !(s.getLast? ==some 44)))):=hid (hid rfl);generalize LN s=R at*;go_enter Tryz.func37,Tryz.ntmps37;go_wp2_with (first|(refine jH (arr:=arr) rfl rfl ?_;intro gB w2 aE hN;replace HB:=aR HB hN.out.2.1;clear hN)|(refine fF rfl aE jQ qX.out.1 rfl ?_));refine(DP.out _ (HU.out.below HB.out) (HW.out.below HB.out HW.out.size)).mono ?_;rintro e w3 ⟨rfl,cF⟩;replace HB:=aR HB cF;clear cF aE DP;go_wp2_with fail;go_loopw [4] (fun i wr=>∃k:Nat,i= .int .i64 (k:Int)∧k≤s.length∧Hid (R=((s.drop k).all (fun c=> !aI c)&&(s !=[])&& !(s.head? ==some 44)&& !(s.getLast? ==some 44)))∧w3=wr) (fun i _=>s.length - (intOf i).toNat);case atStart=>exact⟨0,rfl,Nat.zero_le _,HD.out,rfl⟩
 case round=>
  clear HD;obtain⟨k,rfl,mE,HF,rfl⟩:=hrel;have MF:k≤(aA s).size:=by rw[HZ.out];exact mE
  by_cases bC:k < s.length
  ·obtain⟨c,hd,hg⟩:=iN bC;have jZ:k < (aA s).size:=by rw[HZ.out];exact bC
   have tM:=hg jZ;have iF:c.toNat < 256:=c.toNat_lt;have C6:=hid (Oq.out c);cases nG:aI c with
   |true=>have HN:Hid (R=false):=hid (by rw[HF.out,hd,List.all_cons,nG];simp);rw[nG] at C6;clear hd hg HF nG;go_wp2_with fail;refine(C6.out _).mono ?_;rintro e w' ⟨rfl,rfl⟩;go_wp2_with fail;go_ret;exact⟨tU HN.out.symm,HB.out⟩
   |false=>
    have HN:Hid (R=((s.drop (k+1)).all (fun c=> !aI c)&&(s !=[])&& !(s.head? ==some 44)&& !(s.getLast? ==some 44))):=hid (by rw[HF.out,hd,List.all_cons,nG];simp);rw[nG] at C6;clear hd hg HF nG;go_wp2_with fail;refine(C6.out _).mono ?_;rintro e w' ⟨rfl,rfl⟩;go_wp2_with fail;go_roundw;case rel=>exact⟨k+1,by go_num,by omega,HN,by first|trivial|rfl⟩
    case measure=>simp[intOf];omega
  ·have Ao:(aA s).size≤k:=by rw[HZ.out];omega
   have HN:Hid (R=((s !=[])&& !(s.head? ==some 44)&& !(s.getLast? ==some 44))):=hid (by rw[HF.out,List.drop_of_length_le (by omega)];rfl);have HPR:=hid (fun W=>jU s [44] W);have HSU:=hid (fun W=>xD s [44] (by omega) W);rw[Gf] at HPR;rw[Gg] at HSU;have e1:(aA s).toList.isEmpty= !(s !=[]):=by rw[oK];cases s<;>rfl
   have e2:decide (s.head? =some 44)=(s.head? ==some 44):=by cases s.head?<;>simp<;>rfl
   have e3:decide (s.getLast? =some 44)=(s.getLast? ==some 44):=by cases s.getLast?<;>simp<;>rfl
   rw[e2] at HPR;rw[e3] at HSU;clear bC HF e2 e3;generalize (s !=[])=b1 at*;generalize (s.head? ==some 44)=b2 at*;generalize (s.getLast? ==some 44)=b3 at*;rcases amE b1 b2 b3 R HN.out with⟨rfl,rfl⟩|⟨rfl,rfl,rfl⟩|⟨rfl,rfl,rfl⟩;all_goals simp only[Bool.not_true,Bool.not_false] at e1
   ·go_wp2_with fail;go_ret;exact⟨rfl,HB.out⟩
   ·go_wp2_with fail;refine(HPR.out _).mono ?_;rintro e w' ⟨rfl,rfl⟩;go_wp2_with fail;go_ret;exact⟨rfl,HB.out⟩
   ·go_wp2_with fail;refine(HPR.out _).mono ?_;rintro e w' ⟨rfl,rfl⟩;go_wp2_with fail;refine(HSU.out _).mono ?_;rintro e w' ⟨rfl,rfl⟩;go_wp2_with fail;go_ret;exact⟨rfl,HB.out⟩
theorem iG.parts {N:Nat→Prop} {w:World} {A:Array Value} {it:fV} (h:iG N w A it):A[0]? =some (.bool it.right)∧∃ua a c,(A.toList.drop 1).take 23=ua.toList∧cT N w ua it.url∧A[24]? =some (.slice a it.words.length c)∧bP N w (.slice a it.words.length c) it.words:=by
 obtain⟨ua,wv,rfl,hu,hp⟩:=h;have h23:=hu.dH.1;obtain⟨a,c,rfl⟩:=hp.len;refine⟨rfl,ua,a,c,?_,hu,?_,hp⟩;·simp only[uJ,List.drop_succ_cons,List.drop_zero];rw[List.take_left' (by rw[Array.length_toList];exact h23)]
 ·obtain⟨l⟩:=ua;obtain⟨a0,a1,a2,a3,a4,a5,a6,a7,a8,a9,b0,b1,b2,b3,b4,b5,b6,b7,b8,b9,c0,c1,c2,rfl⟩:=Jy (by simpa using h23);rfl
def mW (L:List (List UInt8)):List UInt8:=L.flatMap fun w=>32::w
theorem QC {L:List (List UInt8)} {k:Nat} (h:k < L.length):mW (L.take (k+1))=mW (L.take k)++[32]++L[k]:=by unfold mW;rw[List.take_succ_eq_append_getElem h,List.flatMap_append];simp
theorem LO (L:List (List UInt8)) (k:Nat):(mW (L.take k)).length≤(mW L).length∧L.length≤(mW L).length:=by
 constructor
 ·unfold mW;conv=>rhs;rw[←List.take_append_drop k L,List.flatMap_append,List.length_append]
  omega
 ·induction L with
  |nil=>exact Nat.le_refl _
  |cons a r ih=>unfold mW at*;rw[List.flatMap_cons,List.length_append,List.length_cons,List.length_cons];omega
def rA (l:List fV):List UInt8:=Cj (R0 ⟨[],[],[],0⟩) l
theorem TL (l:List fV) (it:fV):rA (l++[it])=(if l=[] then[] else rA l++[44,32])++aQ J0 it.url true++mW it.words:=by
 cases l with
 |nil=>simp[rA,Cj,Re,mW,R0]
 |cons a r=>simp[rA,Cj,Re,mW,R0,List.append_assoc]
theorem aaR (l:List fV) (k:Nat):(rA (l.take k)).length≤(rA l).length:=by
 cases l with
 |nil=>simp
 |cons a r=>
  cases k with
  |zero=>simp[rA,Cj]
  |succ k=>
   simp only[rA,Cj,List.take_succ_cons];rw[List.length_append,List.length_append];conv=>rhs;rw[←List.take_append_drop k r,List.flatMap_append,List.length_append]
   omega
theorem Xs (l:List fV) (v:Value) (w:World) (hv:oX iG 52 25 w v l) (hn:l.length≤1000000) (hlen:(rA l).length≤100000000) (hW:Laid w):Calls Tryz.prog 39 #[v] w fun e w'=>e= .returned (.string (aA (rA l)))∧Below w.heap.size w w':=by
 have HW:=hid hW;have HV:=hid hv;have HLE:=hid (fun k=>Nat.le_trans (aaR l k) hlen);have K6:=rY.fresh w;have sW:Below w.heap.size w (w.alloc (.cells #[.pointer none,.slice none 0 0] 65)):=(Below.refl _ _).alloc (Nat.le_refl _) _;have IE:=hid K6;have UB:=hid sW;have HR:Hid (rA (l.take l.length)=rA l):=hid (by rw[List.take_length]);obtain⟨A0,c0,Ef,_⟩:=hv.len;subst Ef;clear K6 sW hv hW hlen;go_enter Tryz.func39,Tryz.ntmps39;go_wp2_with fail;go_loopg [10] l.length (fun gk Nb wr=>∃k:Nat,gk=l.length - k∧k≤l.length∧Nb= .int .i64 (k:Int)∧Hid (rY wr w.heap.size w.heap.size (rA (l.take k)))∧Hid (Below w.heap.size w wr));case atStart=>exact⟨0,rfl,Nat.zero_le _,rfl,IE,UB⟩
 case round=>
  clear IE UB;obtain⟨k,rfl,mE,rfl,jP,HB⟩:=hrel;by_cases bC:k < l.length
  ·have vB:(k:Int) < (l.length:Int):=by omega
   obtain⟨gc,c9,cur,A,tF,hc9,yS,hA,hdt,Ft⟩:=HV.out.at aY bC;injection tF with Nw _ Nx;subst Nw Nx;replace yS:=yS.below HB.out;obtain⟨_,ua,wa,wc,hua,hu,hwa,hp⟩:=hA.parts;have Kj:=HLE.out k;have Lb:=HLE.out (k+1);have HJ:=hid ((congrArg rA (List.take_succ_eq_append_getElem bC)).trans (TL _ _));have Y3:(l.take k=[])=(k=0):=by
    have:(l.take k).length=k:=by rw[List.length_take];omega
    rw[←List.length_eq_zero_iff,this]
   generalize hck:l[k]'bC=it at*;obtain⟨right,url,ws⟩:=it;simp only[Y3] at hu hwa hp HJ;have Fq:=hu.dH;have hj:=congrArg List.length HJ.out;rw[List.length_append,List.length_append] at hj;have HWS:Hid ((aQ J0 url true).length≤100000000∧ws.length≤100000000∧∀j,(mW (ws.take j)).length≤100000000):=hid ⟨by omega,by have:=(LO ws 0).2;omega,fun j=>by have:=(LO ws j).1;omega⟩;have DP:=hid (fun W (h1:cT (fun _=>False) W ua url) hW=>Ad h1 true (show(aQ J0 url true).length≤500000000 by have:=HWS.out.1;omega) (w:=W) hW);generalize aQ J0 url true=wu at*;have HU:=hid hu;have HP:=hid hp.read;have dR:=HB;have HB:Hid (Below wr.heap.size wr wr):=hid (Below.refl _ _);have rC:=dR.out.size;clear hu hp hck hj;go_upto_if 16 with(first|(refine mV rfl 52 _ rfl gc (k*25) 25 rfl yS A hdt Ft.1 _ Tryz.underlying52 rfl (by kernel_rfl) ?_)|(refine eX rfl (Af _) ?_;intro gI w2 kJ hN;have lgI:=jV HB hN;replace HB:=aR HB hN.out.2.1;clear hN)|(refine vS rfl kJ Ft R52 rfl rfl ?_;intro w1 aH aB;replace HB:=bU HB aB.1 lgI;replace kJ:=aH;clear aB aH))
   replace jP:=hid (rY.below jP.out HB.out);replace HB:=bU dR HB.out rC;go_cut [] (fun wc=>Hid (rY wc w.heap.size w.heap.size (if k=0 then[] else rA (l.take k)++[44,32]))∧Hid (Below w.heap.size w wc)∧Hid (Row wc gI 52 A));case first=>
    by_cases zP:k=0
    ·subst zP;have hz:decide ((0:Int) < ((0:Nat):Int))=false:=by decide
     go_wp2_with fail
     go_meet
     case rel=>exact⟨hid jP.out,HB,hid kJ⟩
    ·have hkp:(0:Int) < (k:Int):=by omega
     go_wp2_with fail;refine(sG (t:=52) (by decide) (by decide) _ _ _ _ [44,32] jP.out (by simp only[List.length_cons,List.length_nil];omega) HB.out.size).mono ?_;rintro e w5 ⟨rfl,h5,aM,hk5⟩;replace jP:=hid h5;replace HB:=hid (HB.out.trans aM);have pK:Row w5 gI 52 A:=hk5 _ _ _ kJ;clear h5 aM hk5;go_wp2_with fail
     go_meet
     case rel=>exact⟨hid (by rw[if_neg zP];exact jP.out),HB,hid pK⟩
   case rest=>
    obtain⟨Xt,cK,HRI⟩:=hcut;have kJ:=HRI.out;have ajE:Hid ((if k=0 then[] else rA (l.take k)++[44,32]).length≤100000002):=hid (by split<;>simp only[List.length_nil,List.length_append,List.length_cons]<;>omega);generalize (if k=0 then[] else rA (l.take k)++[44,32])=pre at*;clear HRI jP HB yS Kj Lb;go_wp2_with (refine mV rfl 34 _ rfl gI 1 23 rfl kJ ua hua Fq.1 _ Tryz.underlying34 rfl (by kernel_rfl) ?_);refine(DP.out _ (HU.out.below cK.out) (HW.out.below cK.out HW.out.size)).mono ?_;rintro e w5 ⟨rfl,aM⟩;replace Xt:=hid (rY.below Xt.out aM);replace cK:=aR cK aM;replace kJ:=kJ.below aM;clear aM DP;go_wp2_with fail;refine(sG (t:=52) (by decide) (by decide) _ _ _ _ wu Xt.out (by have:=ajE.out;have:=HWS.out.1;omega) cK.out.size).mono ?_;rintro e w6 ⟨rfl,h5,aM,hk5⟩;replace Xt:=hid h5;replace cK:=hid (cK.out.trans aM);replace kJ:Row w6 gI 52 A:=hk5 _ _ _ kJ;clear h5 aM hk5;have YC:=HWS.out.2.1;go_wp2_with (refine eC 24 rfl kJ _ rfl hwa NG ?_);clear kJ hwa hua Fq HU;go_loopg [25] ws.length (fun gj s25 wr2=>∃j:Nat,gj=ws.length - j∧j≤ws.length∧s25= .int .i64 (j:Int)∧Hid (rY wr2 w.heap.size w.heap.size (pre++wu++mW (ws.take j)))∧Hid (Below w.heap.size w wr2));case atStart=>exact⟨0,rfl,Nat.zero_le _,rfl,hid (by simpa[mW] using Xt.out),cK⟩
    case round=>
     clear Xt cK;obtain⟨j,rfl,hjl,rfl,WZ,vD⟩:=hrel;by_cases hjt:j < ws.length
     ·have hjo:(j:Int) < (ws.length:Int):=by omega
      have XO:j < (ws.map aA).length:=by simpa using hjt
      obtain⟨gp,off,rfl,hc⟩:=(HP.out.below vD.out).cellAt XO;rw[List.getElem_map] at hc;have HT:=hid (QC hjt);have HL3:Hid ((pre++wu++mW (ws.take j)).length≤1000000000):=hid (by have:=ajE.out;have:=HWS.out.1;have:=HWS.out.2.2 j;simp only[List.length_append];omega);have HL4:Hid ((pre++wu++mW (ws.take j)).length+1+ws[j].length≤1000000000):=hid (by have:=ajE.out;have:=HWS.out.1;have h9:=HWS.out.2.2 (j+1);rw[HT.out] at h9;simp only[List.length_append,List.length_cons,List.length_nil] at h9⊢;omega);have HT2:Hid (pre++wu++mW (ws.take j)++[32]++ws[j]=pre++wu++mW (ws.take (j+1))):=hid (by rw[HT.out];simp[List.append_assoc]);generalize ws[j]'hjt=word at*;generalize pre++wu++mW (ws.take j)=out at*;clear HT XO;go_wp2_with fail;refine(iQ _ _ _ out 32 rfl WZ.out (by have:=HL3.out;omega) vD.out.size).mono ?_;rintro e w7 ⟨rfl,h5,aM⟩;replace WZ:=hid h5;replace vD:=hid (vD.out.trans aM);clear h5 aM;go_wp2_with fail;refine(sG (t:=52) (by decide) (by decide) _ _ _ (out++[32]) word WZ.out (by have:=HL4.out;simp only[List.length_append,List.length_cons,List.length_nil];omega) vD.out.size).mono ?_;rintro e w8 ⟨rfl,h5,aM,hk5⟩;have CS:=hid h5;replace vD:=hid (vD.out.trans aM);clear h5 aM hk5;go_wp2_with fail;go_roundg (ws.length - (j+1));case measure=>omega
      case rel=>exact⟨j+1,rfl,by omega,by go_num,hid (by rw[←HT2.out];exact CS.out),vD⟩
     ·obtain rfl:j=ws.length:=by omega
      have hjo:¬((ws.length:Int) < (ws.length:Int)):=by omega
      go_wp2_with fail;go_roundg (l.length - (k+1));case measure=>omega
      case rel=>exact⟨k+1,rfl,by omega,by go_num,hid (by rw[HJ.out];have:=WZ.out;rwa[List.take_length] at this),vD⟩
  ·obtain rfl:k=l.length:=by omega
   have vB:¬((l.length:Int) < (l.length:Int)):=by omega
   rw[HR.out] at jP;clear HLE;go_wp2_with fail;refine(eU _ _ _ _ jP.out HB.out.size).mono ?_;rintro e w4 ⟨rfl,cG⟩;go_wp2_with fail;go_ret;exact⟨rfl,HB.out.trans cG⟩
theorem aaS {cur:List Value} {A ua:Array Value} (h:(cur.drop (0*25)).take 25=A.toList) (hu:(A.toList.drop 1).take 23=ua.toList):(cur.drop 1).take 23=ua.toList:=by rw[←hu,←h,Nat.zero_mul,List.drop_zero,List.drop_take,List.take_take];rfl
theorem TM (d u:List UInt8) (w:World):(Instr.build 86 #[(0,.string (aA d)),(1,.bool true),(2,.string (aA u))]).run Tryz.prog w= .ok (.agg (nP d true u)) w:=by kernel_rfl
theorem TN (p:eH) (kind:Nat) (hk:kind≤3) (l:List fV) (d:List UInt8) (v:Value) (w:World) (hv:oX iG 52 25 w v l) (hn:l.length≤1000000) (hlen:(mB (R0 p) kind l d).length≤100000000) (hW:Laid w):Calls Tryz.prog 17 #[.int .i64 kind,.agg #[v,.string (aA d)]] w fun e w'=>e= .returned (.string (aA (gY (mB (R0 p) kind l d))))∧Below w.heap.size w w':=by
 have HW:=hid hW;have HV:=hid hv;obtain⟨A0,c0,Ef,_⟩:=hv.len;subst Ef;have HB:Hid (Below w.heap.size w w):=hid (Below.refl _ _);have HES:=hid (fun(x:List UInt8) (h:x.length≤100000000) W=>MU (aA x) W (by rw[aD];exact h));cases l with
 |nil=>have he:gY (mB (R0 p) kind [] d)=[]:=rfl;rw[he];clear hv hW;go_enter Tryz.func17,Tryz.ntmps17;go_wp2_with (first|(refine jH rfl rfl ?_;intro gB w2 aE hN;replace HB:=aR HB hN.out.2.1;clear hN)|(refine eC 0 rfl aE _ rfl rfl L41 ?_));go_ret;exact⟨rfl,HB.out⟩
 |cons it r=>
  obtain⟨gc,c9,cur,A,tF,hc9,yS,hA,hdt,Ft⟩:=hv.at aY (show 0 < (it::r).length by simp);injection tF with Nw _ Nx;subst Nw Nx;obtain⟨_,ua,wa,wc,hua,hu,hwa,hp⟩:=hA.parts;have hpu:=aaS hdt hua;have hnp:0 < (it::r).length:=by simp
  have Ky:(((it::r).length:Int)==0)=false:=by simp;omega
  simp only[List.getElem_cons_zero] at hu;have HU:=hid hu;have Fq:=hu.dH;have amF:=hid yS;clear hv hW hwa hp hua hA hdt hu yS Ft
  match kind,hk with
  |0,_=>have he:mB (R0 p) 0 (it::r) d=[]:=rfl;rw[he];go_enter Tryz.func17,Tryz.ntmps17;go_wp2_with (first|(refine jH rfl rfl ?_;intro gB w2 aE hN;replace HB:=aR HB hN.out.2.1;clear hN)|(refine eC 0 rfl aE _ rfl rfl L41 ?_));go_ret;exact⟨rfl,HB.out⟩
  |1,_=>have he:mB (R0 p) 1 (it::r) d=aQ J0 it.url true:=rfl;rw[he] at hlen⊢;have DP:=hid (fun W (h1:cT (fun _=>False) W ua it.url) hW=>Ad h1 true (by omega) (w:=W) hW);have CQ:=hid (fun W=>HES.out _ hlen W);generalize aQ J0 it.url true=wu at*;go_enter Tryz.func17,Tryz.ntmps17;go_wp2_with (first|(refine jH rfl rfl ?_;intro gB w2 aE hN;have yS:=amF.out.below hN.out.2.1;replace HB:=aR HB hN.out.2.1;clear hN)|(refine eC 0 rfl aE _ rfl rfl L41 ?_)|(refine mV rfl 34 _ rfl gc 1 23 rfl yS ua hpu Fq.1 _ Tryz.underlying34 rfl (by kernel_rfl) ?_));refine(DP.out _ (HU.out.below HB.out) (HW.out.below HB.out HW.out.size)).mono ?_;rintro e w5 ⟨rfl,aM⟩;replace HB:=aR HB aM;go_wp2_with fail;refine(CQ.out _).mono ?_;rintro e w6 ⟨rfl,fH⟩;replace HB:=aR HB fH;go_wp2_with fail;go_ret;exact⟨nN (by rw[aC]),HB.out⟩
  |2,_=>have he:mB (R0 p) 2 (it::r) d=rA (it::r):=rfl;rw[he] at hlen⊢;have HLI:=hid (fun W (h:oX iG 52 25 W (.slice (some ⟨gc,0,none⟩) (it::r).length c0) (it::r)) hW=>Xs (it::r) _ W h hn hlen hW);have CQ:=hid (fun W=>HES.out _ hlen W);generalize rA (it::r)=wu at*;go_enter Tryz.func17,Tryz.ntmps17;go_wp2_with (first|(refine jH rfl rfl ?_;intro gB w2 aE hN;replace HB:=aR HB hN.out.2.1;clear hN)|(refine eC 0 rfl aE _ rfl rfl L41 ?_));refine(HLI.out _ (HV.out.below aY HB.out) (HW.out.below HB.out HW.out.size)).mono ?_;rintro e w5 ⟨rfl,aM⟩;replace HB:=aR HB aM;go_wp2_with fail;refine(CQ.out _).mono ?_;rintro e w6 ⟨rfl,fH⟩;replace HB:=aR HB fH;go_wp2_with fail;go_ret;exact⟨nN (by rw[aC]),HB.out⟩
  |3,_=>have he:mB (R0 p) 3 (it::r) d=d++U7++aQ J0 it.url true:=rfl;rw[he] at hlen⊢;have Zz:=hlen;rw[List.length_append,List.length_append] at Zz;have DP:=hid (fun W (h1:cT (fun _=>False) W ua it.url) hW=>Ad h1 true (by omega) (w:=W) hW);have CQ:=hid (fun W=>HES.out _ hlen W);have HRW:=hid (fun W=>KE d true (aQ J0 it.url true) (by omega) (by omega) W);unfold afR at HRW;simp only[if_true] at HRW;generalize d++U7++aQ J0 it.url true=wx at*;generalize aQ J0 it.url true=wu at*;clear Zz;go_enter Tryz.func17,Tryz.ntmps17;go_wp2_with (first|(refine jH rfl rfl ?_;intro gB w2 aE hN;have yS:=amF.out.below hN.out.2.1;replace HB:=aR HB hN.out.2.1;clear hN)|(refine eC 0 rfl aE _ rfl rfl L41 ?_)|(refine mV rfl 34 _ rfl gc 1 23 rfl yS ua hpu Fq.1 _ Tryz.underlying34 rfl (by kernel_rfl) ?_));refine(DP.out _ (HU.out.below HB.out) (HW.out.below HB.out HW.out.size)).mono ?_;rintro e w5 ⟨rfl,aM⟩;replace HB:=aR HB aM;replace aE:=aE.below aM;go_wp2_with (first|(refine eC 1 rfl aE _ rfl rfl L9 ?_)|(refine aG rfl 86 _ rfl _ (.agg (nP d true wu)) (TM _ _ _) ?_));refine(HRW.out _).mono ?_;rintro e w6 ⟨rfl,fH⟩;replace HB:=aR HB fH;go_wp2_with fail;refine(CQ.out _).mono ?_;rintro e w7 ⟨rfl,Nu⟩;replace HB:=aR HB Nu;go_wp2_with fail;go_ret;exact⟨nN (by rw[aC]),HB.out⟩
theorem Ny {N:Nat→Prop} {A:Array Value} {it:fV} {w:World} (h:iG N w A it):Calls Tryz.prog 15 #[.agg A] w fun e w'=>e= .returned (.bool it.right)∧Below w.heap.size w w':=by have h0:=h.parts.1;have HB:Hid (Below w.heap.size w w):=hid (Below.refl _ _);clear h;go_enter Tryz.func15,Tryz.ntmps15;go_wp2_with (first|(refine jH (arr:=A) rfl rfl ?_;intro gB w2 aE hN;replace HB:=aR HB hN.out.2.1;clear hN)|(refine eC 0 rfl aE _ rfl h0 L4 ?_));go_ret;exact⟨rfl,HB.out⟩
theorem QE (l:List fV) (v:Value) (w:World) (hv:oX iG 52 25 w v l) (hn:l.length≤1000000):Calls Tryz.prog 33 #[v,.func (.func 15) #[] #[]] w fun e w'=>(∃n:Int,e= .returned (.int .i64 n)∧decide (0≤n)=l.any (·.right))∧Below w.heap.size w w':=by
 have HV:=hid hv;have HR:Hid (Hid (l.any (·.right)=(l.drop 0).any (·.right))):=hid (hid rfl);generalize l.any (·.right)=R at*;obtain⟨A0,c0,Ef,_⟩:=hv.len;subst Ef;clear hv;go_enter Tryz.func33,Tryz.ntmps33;go_wp2_with fail;go_loopg [8] l.length (fun gk s8 wr=>∃k:Nat,gk=l.length - k∧k≤l.length∧s8= .int .i64 (k:Int)∧Hid (R=(l.drop k).any (·.right))∧Hid (Below w.heap.size w wr));case atStart=>exact⟨0,rfl,Nat.zero_le _,rfl,HR.out,hid (Below.refl _ _)⟩
 case round=>
  clear HR;obtain⟨k,rfl,mE,rfl,HF,HB⟩:=hrel;by_cases bC:k < l.length
  ·have vB:(k:Int) < (l.length:Int):=by omega
   obtain⟨gc,c9,cur,A,tF,hc9,yS,hA,hdt,Ft⟩:=(HV.out.below aY HB.out).at aY bC;injection tF with Nw _ Nx;subst Nw Nx;have hd:=List.drop_eq_getElem_cons bC;generalize l[k]'bC=it at*;have HC:=hid (Ny hA);have HN:Hid (R=(it.right||(l.drop (k+1)).any (·.right))):=hid (by rw[HF.out,hd,List.any_cons]);generalize it.right=b at*;clear hd HF hA;go_wp2_with (refine mV rfl 52 _ rfl gc (k*25) 25 rfl yS A hdt Ft.1 _ Tryz.underlying52 rfl (by kernel_rfl) ?_);refine HC.out.mono ?_;rintro e w5 ⟨rfl,aM⟩;replace HB:=aR HB aM;clear aM HC;cases b with
   |true=>go_wp2_with fail;go_ret;exact⟨⟨k,rfl,by rw[HN.out];simp⟩,HB.out⟩
   |false=>
    go_wp2_with fail;go_roundg (l.length - (k+1));case measure=>omega
    case rel=>exact⟨k+1,rfl,by omega,by go_num,hid (by rw[HN.out];rfl),HB⟩
  ·obtain rfl:k=l.length:=by omega
   have vB:¬((l.length:Int) < (l.length:Int)):=by omega
   have HN:Hid (R=false):=hid (by rw[HF.out,List.drop_length];rfl);go_wp2_with fail;go_ret;exact⟨⟨-1,rfl,by rw[HN.out];decide⟩,HB.out⟩
theorem JG (l:List fV) (v:Value) (w:World) (hv:oX iG 52 25 w v l) (hn:l.length≤1000000):Calls Tryz.prog 14 #[v,.func (.func 15) #[] #[]] w fun e w'=>e= .returned (.bool (l.any (·.right)))∧Below w.heap.size w w':=by have HI:=hid (QE l v w hv hn);generalize l.any (·.right)=R at*;obtain⟨A0,c0,Ef,_⟩:=hv.len;subst Ef;clear hv;go_enter Tryz.func14,Tryz.ntmps14;go_wp2_with fail;refine HI.out.mono ?_;rintro e w5 ⟨⟨n,rfl,hd⟩,aM⟩;have HD:=hid hd;clear hd;go_wp2_with fail;go_ret;exact⟨tU HD.out,aM⟩
def Ah (k y:Int) (out:List UInt8):Array Value:= #[.int .i64 k,.int .i64 y,.string (aA out)]
theorem B6 (w:World) (uY:Value):(Instr.alloc 38 true uY).run Tryz.prog w= .ok (.pointer (some ⟨w.heap.size,0,none⟩)) (w.alloc (.cells (Ah 0 0 []) 38)):=by kernel_rfl
theorem TO (w:World):(Instr.build 38 #[(0,.int .i64 1)]).run Tryz.prog w= .ok (.agg (Ah 1 0 [])) w:=by kernel_rfl
theorem TP (out:List UInt8) (w:World):(Instr.build 38 #[(0,.int .i64 3),(2,.string (aA out))]).run Tryz.prog w= .ok (.agg (Ah 3 0 out)) w:=by kernel_rfl
theorem QF (y:Int) (w:World):Calls Tryz.prog 12 #[.int .i64 y] w fun e w'=>e= .returned (.agg (Ah 2 y []))∧Below w.heap.size w w':=by go_enter Tryz.func12,Tryz.ntmps12;go_wp2_with fail;refine bK rfl rfl (Row.new _ _ _) Tryz.underlying38 rfl (by kernel_rfl) rfl ?_;exact⟨rfl,(Below.refl _ _).alloc (Nat.le_refl _) _⟩
end Go.Proofs.YtmgmclkplepapaaGreatDoor
