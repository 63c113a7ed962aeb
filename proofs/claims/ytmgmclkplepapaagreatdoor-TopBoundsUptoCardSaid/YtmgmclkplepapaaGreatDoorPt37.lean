/- Part of the proof of TopBoundsUptoCardSaid. Conditions: none beyond the statement. -/
import Derived.Test.YtmgmclkplepapaaGreatDoorPt36
set_option linter.all false
set_option maxRecDepth 100000
set_option maxHeartbeats 64000000
namespace Go.Proofs.YtmgmclkplepapaaGreatDoor
open Go.RowKit
def ZX (s0 s1 s2 s3 s4 s5 s6 s7 s8 s9 Nb PU PV Td Te Tf QS QT QU QV:Value) (A:Option Addr) (n c:Nat) (sq:ByteArray) (bq:Bool) (bqs:ByteArray) (b1 b2:Bool):Array Value:= #[s0,s1,s2,s3,s4,s5,s6,s7,s8,s9,Nb,PU,PV,Td,Te,Tf,QS,QT,.slice A n c,bif b1 then .bool bq else .bool false,bif b2 then .string bqs else .string sq,QU,QV]
theorem alJ {F:Bool→Bool→Array Value} {a b:Nat} {L:Nat→Bool} {i:Nat} {W:World} {g:Nat} {t:TypeId} (h:(a !=i&&b !=i)=true) (hR:Row W g t (F (L a) (L b))):
 Row W g t (F (A6 L i a) (A6 L i b)):=by
 simp only[Bool.and_eq_true,bne_iff_ne] at h;rw[aU L h.1,aU L h.2];exact hR
theorem pX (v:Value) (L:List (List UInt8)) (w:World) (hv:bT w v (L.map aA)) (hl:L.length≤1000000000):
 Calls Tryz.prog 43 #[v] w fun e w'=>∃v',e= .returned v'∧fN w' w.heap.size v' (L.map aA)∧Below w.heap.size w w':=FL v _ w hv (by rw[List.length_map];exact hl)
theorem yK (g:Nat) (s0 s1 s2 s3 s4 s5 s6 s7 s8 s9 Nb PU PV Td Te Tf QS QT s18 QU QV q0 q1 q2 q3 q4 q5 q6 q7 q8 q9 q10 q11 q12 q13 q14 q15 q16 q17 q21 q22:Value) (A0:Option Addr) (c0:Nat) (sq bqs:ByteArray) (bq:Bool) (L0:List (List UInt8)) (w:World) (N:Nat→Prop) (W1:N g) (UF:∀x,N x→x < w.heap.size) (hl:L0.length≤1000000000) (hv:bT w (.slice A0 L0.length c0) (L0.map aA)) (hR:Row w g 34 #[s0,s1,s2,s3,s4,s5,s6,s7,s8,s9,Nb,PU,PV,Td,Te,Tf,QS,QT,s18,.bool false,.string sq,QU,QV]):
 Calls Tryz.prog 138 #[.pointer (some ⟨g,0,none⟩),.agg #[q0,q1,q2,q3,q4,q5,q6,q7,q8,q9,q10,q11,q12,q13,q14,q15,q16,q17,.slice A0 L0.length c0,.bool bq,.string bqs,q21,q22]] w fun e w'=>e= .returned (.tuple #[])∧bL g w w'∧∃pv,bP N w' pv L0∧Row w' g 34 #[s0,s1,s2,s3,s4,s5,s6,s7,s8,s9,Nb,PU,PV,Td,Te,Tf,QS,QT,pv,.bool bq,.string bqs,QU,QV]:=by
 have HC:=hid (fun W (hb:Below w.heap.size w W)=>pX (.slice A0 L0.length c0) L0 W (hv.below hb) hl);have HNG:=hid W1;have HNL:=hid UF;clear hv hl W1 UF;go_enter Tryz.func138,Tryz.ntmps138;go_wp2_with (refine jH rfl rfl ?_;intro gB w1 aJ hB;have UJ:=aJ.cell (i:=18) rfl);obtain⟨Ff,rR,GN⟩:=hB.out;have bC:=hR.lt;have rO:Hid (gB≠g):=hid (by omega);have HGB:Hid (w.heap.size≤gB):=hid (by omega);replace hR:=hR.below rR;have HS:=hid ((bL.refl g w).below rR (by omega));have JV:=hid rR.size;refine(HC.out _ rR).mono ?_;rintro e w2 ⟨v',rfl,h2,h3⟩;replace HS:=hid (HS.out.below h3 (by have:=hR.lt;omega));have hP:bP N w2 v' _:=bP.own h2 (fun x hx=>Nat.lt_of_lt_of_le (HNL.out x hx) JV.out);replace hR:=hR.below h3;replace aJ:=aJ.below h3;obtain⟨A,c,hv⟩:=hP.len;subst hv;have fW:=hid hP;generalize L0.length=n at*;clear Ff rR GN hB bC h2 h3 hP UJ;go_wp2_with (refine oU _ rfl hR rfl (by kernel_rfl) ?_;intro w6 Lx P9;replace hR:=Lx;replace aJ:=aJ.other P9 rO.out;replace fW:=hid (fW.out.save (bL.of P9) HNG.out);replace HS:=hid (HS.out.trans (bL.of P9));clear Lx P9;simp[Act.eval] at hR;have c19:=hR.cell (i:=19) rfl);have HI0:Hid ((bL g w w6.drew∧bP N w6.drew (.slice A n c) L0)∧Row w6.drew gB 34 #[q0,q1,q2,q3,q4,q5,q6,q7,q8,q9,q10,q11,q12,q13,q14,q15,q16,q17,.slice A0 n c0,.bool bq,.string bqs,q21,q22]∧Row w6.drew g 34 (ZX s0 s1 s2 s3 s4 s5 s6 s7 s8 s9 Nb PU PV Td Te Tf QS QT QU QV A n c sq bq bqs false false)):=hid ⟨⟨HS.out.below (bB w6) (Nat.le_of_lt hR.lt),fW.out.below (bB w6)⟩,aJ,hR⟩;have aqM:=hR.lt;have aqN:=hid (fW.out.below (bB w6));have HS6:=HS;clear hR aJ HS c19;apply BT (fun L W=>(bL g w W∧bP N W (.slice A n c) L0)∧Row W gB 34 #[q0,q1,q2,q3,q4,q5,q6,q7,q8,q9,q10,q11,q12,q13,q14,q15,q16,q17,.slice A0 n c0,.bool bq,.string bqs,q21,q22]∧Row W g 34 (ZX s0 s1 s2 s3 s4 s5 s6 s7 s8 s9 Nb PU PV Td Te Tf QS QT QU QV A n c sq bq bqs (L 8) (L 11))) rfl (by kernel_rfl) HI0.out;simp only[];repeat (first
  |(apply iX.step; ·rfl
    ·intro L W hI hl K hK;refine kO 4 _ _ rfl g 19 (.bool bq) rfl rfl rfl hI.2.2 rfl (by kernel_rfl) fun w' hr he=>hK w' ⟨⟨hI.1.1.trans (bL.of he),hI.1.2.save (bL.of he) HNG.out⟩,hI.2.1.other he rO.out,by rw[kN,aU L (show(11:Nat)≠8 by decide)];exact hr⟩
    simp only[pq])
  |(apply iX.step; ·rfl
    ·intro L W hI hl K hK;refine kO 9 _ _ rfl g 20 (.string bqs) rfl rfl rfl hI.2.2 rfl (by kernel_rfl) fun w' hr he=>hK w' ⟨⟨hI.1.1.trans (bL.of he),hI.1.2.save (bL.of he) HNG.out⟩,hI.2.1.other he rO.out,by rw[kN,aU L (show(8:Nat)≠11 by decide)];exact hr⟩
    simp only[pq])
  |(apply iX.step; ·rfl
    ·intro L W hI hl K hK;have c19:=hI.2.1.cell (i:=19) rfl;have c20:=hI.2.1.cell (i:=20) rfl;go_simp;exact hK W ⟨hI.1,hI.2.1,alJ (a:=8) (b:=11) (by decide) hI.2.2⟩
    simp only[pq]))
 refine iX.nil ?_;intro L W iK hI;have pG:=hI.2.2;rw[iK 8 (by decide),iK 11 (by decide)] at pG;simp only[ZX,cond_true] at pG;have Cv:=hI.1;clear hI iK
 go_end0
 exact⟨rfl,Cv.1,_,Cv.2,pG⟩
theorem yL (g:Nat) (s0 s1 s2 s3 s4 s5 s6 s7 s8 s9 Nb PU PV Td Te Tf QS QT s18 s20 QU QV q0 q1 q2 q3 q4 q5 q6 q7 q8 q9 q10 q11 q12 q13 q14 q15 q16 q17 q19 q20 q21 q22:Value) (A0:Option Addr) (c0:Nat) (L0:List (List UInt8)) (w:World) (N:Nat→Prop) (W1:N g) (UF:∀x,N x→x < w.heap.size) (hl:L0.length≤1000000000) (hv:bT w (.slice A0 L0.length c0) (L0.map aA)) (hR:Row w g 34 #[s0,s1,s2,s3,s4,s5,s6,s7,s8,s9,Nb,PU,PV,Td,Te,Tf,QS,QT,s18,.bool true,s20,QU,QV]):
 Calls Tryz.prog 138 #[.pointer (some ⟨g,0,none⟩),.agg #[q0,q1,q2,q3,q4,q5,q6,q7,q8,q9,q10,q11,q12,q13,q14,q15,q16,q17,.slice A0 L0.length c0,q19,q20,q21,q22]] w fun e w'=>e= .returned (.tuple #[])∧bL g w w'∧∃pv,bP N w' pv L0∧Row w' g 34 #[s0,s1,s2,s3,s4,s5,s6,s7,s8,s9,Nb,PU,PV,Td,Te,Tf,QS,QT,pv,.bool true,s20,QU,QV]:=by
 have HC:=hid (fun W (hb:Below w.heap.size w W)=>pX (.slice A0 L0.length c0) L0 W (hv.below hb) hl);have HNG:=hid W1;have HNL:=hid UF;clear hv hl W1 UF;go_enter Tryz.func138,Tryz.ntmps138;go_wp2_with (refine jH rfl rfl ?_;intro gB w1 aJ hB;have UJ:=aJ.cell (i:=18) rfl);obtain⟨Ff,rR,GN⟩:=hB.out;have bC:=hR.lt;have rO:Hid (gB≠g):=hid (by omega);have HGB:Hid (w.heap.size≤gB):=hid (by omega);replace hR:=hR.below rR;have HS:=hid ((bL.refl g w).below rR (by omega));have JV:=hid rR.size;refine(HC.out _ rR).mono ?_;rintro e w2 ⟨v',rfl,h2,h3⟩;replace HS:=hid (HS.out.below h3 (by have:=hR.lt;omega));have hP:bP N w2 v' _:=bP.own h2 (fun x hx=>Nat.lt_of_lt_of_le (HNL.out x hx) JV.out);replace hR:=hR.below h3;replace aJ:=aJ.below h3;obtain⟨A,c,hv⟩:=hP.len;subst hv;have fW:=hid hP;generalize L0.length=n at*;clear Ff rR GN hB bC h2 h3 hP UJ;go_wp2_with (refine oU _ rfl hR rfl (by kernel_rfl) ?_;intro w6 Lx P9;replace hR:=Lx;replace aJ:=aJ.other P9 rO.out;replace fW:=hid (fW.out.save (bL.of P9) HNG.out);replace HS:=hid (HS.out.trans (bL.of P9));clear Lx P9;simp[Act.eval] at hR;have c19:=hR.cell (i:=19) rfl)
 go_end0
 exact⟨rfl,HS.out,_,fW.out,hR⟩
def B3 (o:Option bD) (w:World) (e:Ending) (w':World):Prop:=Below w.heap.size w w'∧match o with
 |none=>e=Ab
 |some u=>∃pv,e= .returned (.agg (dP pv u))∧bP (fun b=>b < w.heap.size) w' pv u.path
theorem bP.lE {N N':Nat→Prop} {w:World} {v:Value} {L:List (List UInt8)} (h:bP N w v L) (hn:∀x,N' x→N x):bP N' w v L:=by
 rcases h with h|⟨b,off,c,hb,h⟩;·exact .inl h
 ·exact .inr ⟨b,off,c,fun hx=>hb (hn _ hx),h⟩
structure mT (p:cU):Prop where
 scheme:p.scheme.length≤5000000
 rest:p.rest.length≤5000000
 query:p.query.length≤5000000
 frag:p.frag.length≤5000000
theorem Nc {u v:bD} {s:List UInt8} (hs:s.length≤5000000) (h:tI J0 u s=some v):nO v.host:=by
 unfold tI at h;split at h;·cases h
 ·rename_i a ha;cases h;refine Lw (Nat.le_trans ?_ hs) ha;exact(List.takeWhile_sublist (l:=s) _).length_le
theorem Nd:(⟨#[47,47]⟩:ByteArray)=aA [47,47]:=rfl
theorem Ti:(⟨#[47]⟩:ByteArray)=aA [47]:=rfl
theorem Tj:(⟨#[32]⟩:ByteArray)=aA [32]:=rfl
theorem alK (l:List UInt8):aA l++(⟨#[37,50,48]⟩:ByteArray)=aA (l++[37,50,48]):=by rw[iM];rfl
theorem Qa (p:cU) (hp:mT p) (w:World) (hW:Laid w):Calls Tryz.prog 99 #[.agg (fK p)] w fun e w'=>B3 (qE J0 p) w e w':=by
 have HW:=hid hW;obtain⟨p0,pc,pr,hq,qu,hf,fr⟩:=p;obtain⟨b1,b2,b3,b4⟩:=hp;simp only at b1 b2 b3 b4;have rG:=hid (fun W=>wP pc ⟨p0,pc,pr,hq,qu,hf,fr⟩ (by simp only;omega) (by simp only;omega) W);have jB:Hid (qE J0 ⟨p0,pc,pr,hq,qu,hf,fr⟩=if[47,47].isPrefixOf pr then tI J0 (bG J0 pc ⟨p0,pc,pr,hq,qu,hf,fr⟩) (pr.drop 2)
  else if[47].isPrefixOf pr then some {bG J0 pc ⟨p0,pc,pr,hq,qu,hf,fr⟩ with path:=J0.dU pc [] (pr.drop 1)}
  else some {bG J0 pc ⟨p0,pc,pr,hq,qu,hf,fr⟩ with opaq:=true,flat:=rT ⟨p0,pc,pr,hq,qu,hf,fr⟩ (pO 0 pr)}):=hid rfl
 have tH:bG J0 pc ⟨p0,pc,pr,hq,qu,hf,fr⟩={scheme:=pc,hasQuery:=hq,query:=pO (if aV (aA pc) then 3 else 2) qu,hasFrag:=hf,frag:=pO 1 fr}:=rfl;rw[tH] at rG jB;have HE0:=hid (fun W=>oJ pr 0 0 rfl W (by omega));have JW:=hid (fun g pv u h8 w hW hg hR N h1 h2 mD=>B2 g pv u h8 (pr.drop 2) (by simp;omega) w hW hg hR N h1 h2 mD);have F9:=fun u v=> @Nc u v (pr.drop 2) (by simp;omega);have xJ:=hid (fun w=>jD pc (.slice none 0 0) [] (pr.drop 1) w (.inl ⟨rfl,rfl⟩) (by simp) (by simp;omega));have hel:=ID (0:Int) pr;have W3:(pO 0 pr).length≤15000000:=by show(vP ((0:Nat):Int) pr).length≤_;simp only[Int.natCast_zero];omega
 generalize pO (if aV (aA pc) then 3 else 2) qu=qv at*;generalize pO 1 fr=fv at*;generalize pO 0 pr=ev at*;generalize J0.dU pc [] (pr.drop 1)=sg at*;have HB:Hid (Below w.heap.size w w):=hid (Below.refl _ _);simp only[fK] at rG⊢;simp only[dP,eY,List.map,List.cons_append,List.nil_append] at rG;clear hW tH hel b1 b3 b4;by_cases h2:([47,47].isPrefixOf pr)=true;rw[if_pos h2] at jB;have HX:=hid (fun w=>jA pr [47,47] h2 w);clear h2 xJ HE0;generalize hU:({scheme:=pc,hasQuery:=hq,query:=qv,hasFrag:=hf,frag:=fv}:bD)=U at jB;have HU:=hid hU;clear hU;rcases hk:tI J0 U (pr.drop 2) with _|v;have HF:=hid (jB.out.trans hk);have HK:=hid hk;rw[HF.out];clear jB hk;have tg:=Tg.k 0;rotate_left;have HF:=hid (jB.out.trans hk);have HK:=hid hk;have qK:=(F9 U v hk).six;obtain⟨vs,vu,vp,⟨vk,vn,vf,v6⟩,vh,vo,vq,vfl,vpa,vhq,vqu,vhf,vfr⟩:=v;obtain⟨x0,x1,x2,x3,x4,x5,x6,x7,rfl⟩:=eight qK;clear jB hk F9 qK;have tg:=Tg.k 1;rotate_left;rw[if_neg h2] at jB;have HX:=hid (fun w=>jY pr [47,47] (Bool.eq_false_iff.mpr h2) w);clear h2 JW F9;by_cases h1:([47].isPrefixOf pr)=true;have HF:=hid (jB.out.trans (if_pos h1));have HX1:=hid (fun w=>jA pr [47] h1 w);obtain⟨t1,ht1⟩:∃t1,t1=pr.drop 1:=⟨_,rfl⟩;rw[show List.drop [(47:UInt8)].length pr=t1 from ht1.symm] at HX1;rw[←ht1] at xJ;clear ht1;clear h1 jB HE0;have tg:=Tg.k 2;rotate_left;have pJ:=hid (jB.out.trans (if_neg h1));have HX1:=hid (fun w=>jY pr [47] (Bool.eq_false_iff.mpr h1) w);have HQ:=hid (fun w=>vJ ev 32 (by omega) w);have hzv:=aD ev;have Dx:=alK ev.dropLast;have hzd:(aA ev.dropLast).size≤15000000:=by rw[aD,List.length_dropLast];omega
 have dO:((hq||hf)=false)∨((hq||hf)=true∧ev.getLast? =some 32)∨((hq||hf)=true∧¬ev.getLast? =some 32):=by
  cases (hq||hf);·exact .inl rfl
  ·by_cases h:ev.getLast? =some 32;·exact .inr (.inl ⟨rfl,h⟩)
   ·exact .inr (.inr ⟨rfl,h⟩)
 clear h1 jB xJ hzv;rcases dO with hqf|⟨hqf,hl⟩|⟨hqf,hl⟩;have HF:Hid (qE J0 ⟨p0,pc,pr,hq,qu,hf,fr⟩=some {scheme:=pc,hasQuery:=hq,query:=qv,hasFrag:=hf,frag:=fv,opaq:=true,flat:=ev}):=hid (by rw[pJ.out];unfold rT;simp only[hqf];simp);clear pJ HQ;obtain⟨rfl,rfl⟩:hq=false∧hf=false:=by cases hq<;>cases hf<;>simp_all
 clear hqf;have tg:=Tg.k 3;rotate_left;have HF:Hid (qE J0 ⟨p0,pc,pr,hq,qu,hf,fr⟩=some {scheme:=pc,hasQuery:=hq,query:=qv,hasFrag:=hf,frag:=fv,opaq:=true,flat:=ev.dropLast++[37,50,48]}):=hid (by rw[pJ.out];unfold rT;simp only[hqf,hl];simp);rw[if_pos hl,decide_eq_true hl] at HQ;clear pJ hl;have hqq:hq=true∨(hq=false∧hf=true):=by cases hq<;>cases hf<;>simp_all
 clear hqf;rcases hqq with rfl|⟨rfl,rfl⟩;skip;have tg:=Tg.k 4;rotate_left;skip;have tg:=Tg.k 5;rotate_left;have HF:Hid (qE J0 ⟨p0,pc,pr,hq,qu,hf,fr⟩=some {scheme:=pc,hasQuery:=hq,query:=qv,hasFrag:=hf,frag:=fv,opaq:=true,flat:=ev}):=hid (by rw[pJ.out];unfold rT;simp only[hqf,hl];simp[hl]);rw[if_neg hl,decide_eq_false hl] at HQ;clear pJ hl;have hqq:hq=true∨(hq=false∧hf=true):=by cases hq<;>cases hf<;>simp_all
 clear hqf;rcases hqq with rfl|⟨rfl,rfl⟩;skip;have tg:=Tg.k 6;rotate_left;skip;have tg:=Tg.k 7;all_goals
  go_enter Tryz.func99,Tryz.ntmps99;go_wp2_with (first|(refine jH rfl rfl ?_;intro gP w2 aP hN;have x0:=hN.out.1;have Cc:w.heap.size≤gP:=(by have:=HB.out.size;omega);clear x0;replace HB:=aR HB hN.out.2.1;clear hN)|(refine eX rfl (aO _) ?_;intro gA w2 aL hN;have l0:=aP.lt;have x0:=hN.out.1;have dY:gP≠gA:=(by omega);have pD:w.heap.size≤gA:=(by have:=HB.out.size;omega);clear l0 x0;replace aP:=aP.below hN.out.2.1;replace HB:=aR HB hN.out.2.1;clear hN)|(refine fF rfl aP CP rfl rfl ?_)|(refine eC 1 rfl aP (.string (aA pc)) rfl rfl L9 ?_));refine(rG.out _).mono ?_;rintro e w3 ⟨rfl,cF⟩;replace aP:=aP.below cF;replace aL:=aL.below cF;replace HB:=aR HB cF;clear cF;go_wp2_with (first|(refine eX rfl (aO _) ?_;intro gU w2 bH hN;have l0:=aP.lt;have l1:=aL.lt;have x0:=hN.out.1;have bN:gP≠gU:=(by omega);have bI:gA≠gU:=(by omega);have dZ:w.heap.size≤gU:=(by have:=HB.out.size;omega);clear l0 l1 x0;replace aP:=aP.below hN.out.2.1;replace aL:=aL.below hN.out.2.1;replace HB:=aR HB hN.out.2.1;clear hN)|(refine lV rfl bH rfl (by kernel_rfl) ?_;intro w1 aH aB;replace aP:=aP.other aB (by first|exact bN|exact Ne.symm cZ);replace aL:=aL.other aB (by first|exact bI|exact Ne.symm bY);replace HB:=bU HB aB.1 dZ;replace bH:=aH;clear aB aH)|(refine eC 2 rfl aP (.string (aA pr)) rfl rfl L9 ?_));rw[Nd];refine(HX.out _).mono ?_;rintro e w' ⟨rfl,rfl⟩;go_wp2_with (first|(refine eC 2 rfl aP (.string (aA pr)) rfl rfl L9 ?_)|(refine eC 0 rfl bH (.string (aA pc)) rfl rfl L9 ?_)|(refine eC 3 rfl aP (.bool false) rfl rfl L4 ?_)|(refine eC 5 rfl aP (.bool false) rfl rfl L4 ?_)|(refine eC 3 rfl aP (.bool true) rfl rfl L4 ?_)|(refine eC 5 rfl aP (.bool hf) rfl rfl L4 ?_)|(refine eC 5 rfl aP (.bool true) rfl rfl L4 ?_));first
  |(first|have:Tg 0:=tg|have:Tg 1:=tg)
   refine(JW.out gU (.slice none 0 0) U (by rw[←HU.out];rfl) _ (HW.out.below HB.out HW.out.size) (by have:=HW.out.size;omega) (by rw[←HU.out];exact bH) (fun b=>b=gU∨b=gA∨b < w.heap.size) (.inl rfl) (by rintro x (rfl|rfl|hx);exact bH.lt;exact aL.lt;exact Nat.lt_of_lt_of_le hx HB.out.size) (by rw[←HU.out];exact bP.nil _ _)).mono ?_;rintro e w5 ⟨nI,h5⟩;rw[HK.out] at h5;first
   |have:Tg 1:=tg;obtain⟨rfl,pv,pK,CW⟩:=h5;simp only[dP,eY,List.map,List.cons_append,List.nil_append] at pK CW;replace aP:=aP.save nI (by first|exact bN|exact Ne.symm cZ);replace aL:=aL.save nI (by first|exact bI|exact Ne.symm bY)
   |simp only at h5;subst h5
   replace HB:=bU HB nI.1 dZ;first
   |have:Tg 1:=tg;replace bH:=pK;obtain⟨A,c,mD⟩:=CW.len;subst mD;have fW:=hid CW;generalize vpa.length=vn9 at*;clear nI pK CW
   |clear nI aP aL bH;unfold Ab
  |rw[Ti];refine(HX1.out _).mono ?_;rintro e w' ⟨rfl,rfl⟩;go_wp2_with (first|(refine eC 2 rfl aP (.string (aA pr)) rfl rfl L9 ?_)|(refine eC 0 rfl bH (.string (aA pc)) rfl rfl L9 ?_)|(refine oU _ rfl bH rfl (by kernel_rfl) ?_;intro w1 aH aB;replace aP:=aP.other aB (by first|exact bN|exact Ne.symm cZ);replace aL:=aL.other aB (by first|exact bI|exact Ne.symm bY);replace HB:=bU HB aB.1 dZ;replace bH:=aH;clear aB aH;simp[Act.eval] at bH;have c5:=aP.cell (i:=5) rfl)|(refine eC 3 rfl aP (.bool false) rfl rfl L4 ?_)|(refine eC 5 rfl aP (.bool false) rfl rfl L4 ?_)|(refine eC 3 rfl aP (.bool true) rfl rfl L4 ?_)|(refine eC 5 rfl aP (.bool hf) rfl rfl L4 ?_)|(refine eC 5 rfl aP (.bool true) rfl rfl L4 ?_));first
   |have:Tg 2:=tg;refine(xJ.out _).mono ?_;rintro e w5 ⟨v',rfl,h5,aM⟩;have hP:bP (fun b=>b=gU∨b=gA∨b < w.heap.size) w5 v' _:=bP.own h5 (by rintro x (rfl|rfl|hx);exact bH.lt;exact aL.lt;exact Nat.lt_of_lt_of_le hx HB.out.size)
   |refine(HE0.out _).mono ?_;rintro e w5 ⟨rfl,aM⟩
   replace aP:=aP.below aM;replace aL:=aL.below aM;replace bH:=bH.below aM;replace HB:=aR HB aM;clear aM;first
   |have:Tg 2:=tg;obtain⟨A,c,mD⟩:=hP.len;subst mD;have fW:=hid hP;generalize tF:sg.length=n9 at*;clear h5 hP tF
   |have:Tg 3:=tg
   |go_wp2_with (first|(refine oU _ rfl bH rfl (by kernel_rfl) ?_;intro w1 aH aB;replace aP:=aP.other aB (by first|exact bN|exact Ne.symm cZ);replace aL:=aL.other aB (by first|exact bI|exact Ne.symm bY);replace HB:=bU HB aB.1 dZ;replace bH:=aH;clear aB aH;simp[Act.eval] at bH;have c5:=aP.cell (i:=5) rfl)|(refine fF rfl bH jQ rfl rfl ?_)|(refine lV rfl aL rfl (by kernel_rfl) ?_;intro w1 aH aB;replace aP:=aP.other aB (by first|exact dY|exact Ne.symm tZ);replace bH:=bH.other aB (by first|exact bY|exact Ne.symm bI);replace HB:=bU HB aB.1 pD;replace aL:=aH;clear aB aH)|(refine eC 2 rfl aP (.string (aA pr)) rfl rfl L9 ?_)|(refine eC 3 rfl aP (.bool true) rfl rfl L4 ?_)|(refine eC 5 rfl aP (.bool hf) rfl rfl L4 ?_)|(refine eC 17 rfl bH (.string (aA ev)) rfl rfl L9 ?_)|(refine eC 3 rfl aP (.bool false) rfl rfl L4 ?_)|(refine eC 5 rfl aP (.bool true) rfl rfl L4 ?_));rw[Tj];refine(HQ.out _).mono ?_;rintro e w' ⟨rfl,rfl⟩
  go_wp2_with (first|(refine fF rfl bH jQ rfl rfl ?_)|(refine lV rfl aL rfl (by kernel_rfl) ?_;intro w1 aH aB;replace aP:=aP.other aB (by first|exact dY|exact Ne.symm tZ);replace bH:=bH.other aB (by first|exact bY|exact Ne.symm bI);replace HB:=bU HB aB.1 pD;replace aL:=aH;replace fW:=hid (fW.out.save (bL.of aB) (by first|exact .inl rfl|exact .inr (.inl rfl)));clear aB aH)|(refine oU _ rfl bH rfl (by kernel_rfl) ?_;intro w1 aH aB;replace aP:=aP.other aB (by first|exact bN|exact Ne.symm cZ);replace aL:=aL.other aB (by first|exact bI|exact Ne.symm bY);replace HB:=bU HB aB.1 dZ;replace bH:=aH;replace fW:=hid (fW.out.save (bL.of aB) (by first|exact .inl rfl|exact .inr (.inl rfl)));clear aB aH;simp[Act.eval] at bH)|(refine oU _ rfl bH rfl (by kernel_rfl) ?_;intro w1 aH aB;replace aP:=aP.other aB (by first|exact bN|exact Ne.symm cZ);replace aL:=aL.other aB (by first|exact bI|exact Ne.symm bY);replace HB:=bU HB aB.1 dZ;replace bH:=aH;clear aB aH;simp[Act.eval] at bH;have c5:=aP.cell (i:=5) rfl)|(refine lV rfl aL rfl (by kernel_rfl) ?_;intro w1 aH aB;replace aP:=aP.other aB (by first|exact dY|exact Ne.symm tZ);replace bH:=bH.other aB (by first|exact bY|exact Ne.symm bI);replace HB:=bU HB aB.1 pD;replace aL:=aH;clear aB aH)|(refine eC 2 rfl aP (.string (aA pr)) rfl rfl L9 ?_)|(refine eC 3 rfl aP (.bool false) rfl rfl L4 ?_)|(refine eC 5 rfl aP (.bool false) rfl rfl L4 ?_)|(refine eC 17 rfl bH (.string (aA ev)) rfl rfl L9 ?_)|(refine eC 3 rfl aP (.bool true) rfl rfl L4 ?_)|(refine eC 5 rfl aP (.bool hf) rfl rfl L4 ?_)|(refine eC 5 rfl aP (.bool true) rfl rfl L4 ?_));first
  |have:Tg 0:=tg;exact⟨rfl,HB.out,rfl⟩
  |refine bK rfl rfl aL Tryz.underlying34 rfl (by kernel_rfl) rfl ?_;rw[HF.out];first
   |(first|have:Tg 1:=tg|have:Tg 2:=tg)
    exact⟨HB.out,_,rfl,fW.out.lE fun x hx=> .inr (.inr hx)⟩
   |exact⟨HB.out,_,rfl,.inl ⟨rfl,rfl⟩⟩
theorem UK:∀n:Fin 16,kS (Kl n.val)=1:=by decide+kernel
theorem adT (k:Int) (c:UInt8):dL (GD k c)≤5:=by
 unfold GD;split
 ·have h:=c.toNat_lt;have h1:=UK ⟨c.toNat / 16,by omega⟩;have h2:=UK ⟨c.toNat % 16,by omega⟩;simp only at h1 h2;have h3:kS 37=1:=by decide
  rw[lN,lN,lN,eM,h1,h2,h3];omega
 ·rw[lN,eM];have:=KQ c;omega
theorem Nf (k:Int) (l:List UInt8):dL (vP k l)≤5*l.length:=by
 induction l with
 |nil=>simp[vP,eM]
 |cons c t ih=>
  have h:vP k (c::t)=GD k c++vP k t:=by simp[vP]
  rw[h,cM,List.length_cons];have:=adT k c;omega
theorem Tk (s:List UInt8) (L:List (List UInt8)):Aj (J0.iH s L)≤Aj L:=by
 have h:J0.iH s L=TY bX (jT (aA s)) L:=by
  show(lS (aA s) (L.map aA)).map (·.data.toList)=_;rw[Bi,List.map_map];have:((fun x:ByteArray=>x.data.toList)∘aA)=id:=by funext l;exact aC l
  rw[this,List.map_id]
 rw[h,NJ];exact Hq _ _
theorem Ng (a b:List (List UInt8)):Aj (a++b)=Aj a+Aj b:=by unfold Aj;rw[List.flatMap_append,cM]
def DZ (L:List (List UInt8)):Nat:=(L.map fun p=>if sM bX p=true then 0 else 1+5*p.length).sum
theorem aiC (p:List UInt8) (h:jN p=true):dL (bX.drv p)≤5*p.length:=by
 show dL (p.take 1++[58])≤_;rw[cM];have h2:dL [58]=1:=by decide
 have h3:=Er (p.take 1);rw[List.length_take] at h3;have h4:2≤p.length:=by
  match p with
  |[]=>cases h
  |[a]=>cases h
  |a::b::r=>simp
 omega
theorem adU (file:Bool) (out:List (List UInt8)) (p:List UInt8):Aj (xK bX file out p)≤Aj out+(if sM bX p=true then 0 else 1+5*p.length):=by
 unfold xK sM;by_cases h1:bX.Q2 p=true;·rw[if_pos h1,h1,NJ];have:=Hq out (TY bX file out).length;simp;exact this
 ·rw[if_neg h1];by_cases h2:bX.dot p=true;·rw[if_pos h2];omega
  ·have h4:(bX.Q2 p||bX.dot p)=false:=by simp[h1,h2]
   rw[if_neg h2,h4];simp only[Bool.false_eq_true,if_false];split;·rename_i h3;rw[Ng,xO,oR];simp only[Bool.and_eq_true] at h3;have:=aiC p h3.2.2;omega
   ·rw[Ng,xO,oR];have:dL (bX.enc p)≤5*p.length:=Nf 4 p;omega
theorem aiD (file:Bool):∀(L out:List (List UInt8)),Aj (Ej bX file out L)≤Aj out+DZ L:=by
 intro L;induction L with
 |nil=>intro out;rw[NI];omega
 |cons p L ih=>
  intro out;rw[El];have h1:=ih (xK bX file out p);have h2:=adU file out p;have h3:DZ (p::L)=(if sM bX p=true then 0 else 1+5*p.length)+DZ L:=by simp[DZ]
  omega
def vR (L:List (List UInt8)):Nat:=(L.map fun p=>1+5*p.length).sum
theorem adV (L:List (List UInt8)):DZ L≤vR L:=by
 induction L with
 |nil=>simp[DZ,vR]
 |cons p L ih=>
  have h3:DZ (p::L)=(if sM bX p=true then 0 else 1+5*p.length)+DZ L:=by simp[DZ]
  have h4:vR (p::L)=1+5*p.length+vR L:=by simp[vR]
  rw[h3,h4];split<;>omega
theorem adW (L:List (List UInt8)):Aj (KH bX L)+DZ L≤vR L:=by
 rcases List.eq_nil_or_concat L with rfl|⟨D,p,rfl⟩;·show Aj []+_≤_;simp[oR,DZ,vR]
 ·have h1:=adV D;rw[List.concat_eq_append];have h2:KH bX (D++[p])=if sM bX p=true then[[]] else[]:=by unfold KH;rw[List.getLast?_append];rfl
  have h3:DZ (D++[p])=DZ D+if sM bX p=true then 0 else 1+5*p.length:=by simp[DZ]
  have h4:vR (D++[p])=vR D+(1+5*p.length):=by simp[vR]
  rw[h2,h3,h4];split;·rw[xO,oR,eM];omega
  ·rw[oR];omega
theorem ZY (sp:Bool):∀t:List UInt8,vR (dU sp t)≤5*t.length+1:=by
 intro t;induction t with
 |nil=>simp[dU,vR]
 |cons c r ih=>
  unfold dU;rw[List.length_cons];split
  ·have:vR ([]::dU sp r)=1+vR (dU sp r):=by simp[vR]
   omega
  ·split;·simp[vR];omega
   ·rename_i p ps hp;rw[hp] at ih;have h1:vR ((c::p)::ps)=1+5*(p.length+1)+vR ps:=by simp[vR]
    have h2:vR (p::ps)=1+5*p.length+vR ps:=by simp[vR]
    omega
theorem adX (s:List UInt8) (L:List (List UInt8)) (t:List UInt8):Aj (J0.dU s L t)≤Aj L+5*t.length+1:=by show Aj (Ek bX (jT (aA s)) L (dU (aV (aA s)) t))≤_;unfold Ek;rw[Ng];have h1:=aiD (jT (aA s)) (dU (aV (aA s)) t) L;have h2:=adW (dU (aV (aA s)) t);have h3:=ZY (aV (aA s)) t;omega
theorem ZZ:LZ J0 where
 enc:=fun k l=>Nf k l
 iH:=Tk
 dU:=adX
 host:=fun s b h hh=>X6 Bh (fun k l=>Nf k l) hh
 none:=rfl
 port:=fun s t has n h=>NU n (NV h)
structure nA (u:bD):Prop where
 host:nO u.host
 port:u.port≤65535
 path:u.opaq=true→u.path=[]
theorem nA.zero:nA {}:=⟨nO.zero,by decide,fun h=>by cases h⟩
theorem UL {s t:List UInt8} {has:Bool} {n:Nat} (h:J0.uR s t=some (has,n)):n≤65535:=NV h
theorem Cw {sch us ps s:List UInt8} {a:AJ} (h:dX J0 sch us ps s=some a):a.port≤65535:=by
 unfold dX at h;split at h;·cases h
 ·split at h;·cases h
  ·split at h;·cases h
   ·rename_i hp;cases h;exact UL hp
 ·split at h;·cases h
  ·split at h;·cases h
   ·rename_i hp;cases h;exact UL hp
theorem Qb {sch s:List UInt8} {a:AJ} (h:fI J0 sch s=some a):a.port≤65535:=by
 unfold fI at h;split at h
 ·split at h;·cases h
  ·exact Cw h
 ·exact Cw h
theorem BC {u v:bD} {s:List UInt8} (hs:s.length≤5000000) (hu:u.opaq=false) (h:tI J0 u s=some v):nA v:=by
 have h1:=Nc hs h;unfold tI at h;split at h;·cases h
 ·rename_i a ha;cases h;exact⟨h1,Qb ha,fun e=>by rw[show(Hp u a (Dc J0 u s)).opaq=u.opaq from rfl,hu] at e;cases e⟩
theorem nO.one:nO {kind:=1}:=⟨rfl,by decide,by decide,by decide,by decide⟩
theorem Tl (sch:List UInt8) (p:cU):nA (bG J0 sch p):=⟨nO.zero,by show 0≤65535;omega,fun h=>by cases h⟩
theorem Js {p:cU} {v:bD} (hp:mT p) (h:qE J0 p=some v):nA v:=by
 unfold qE at h;simp only at h;split at h;·exact BC (by have:=hp.rest;simp;omega) rfl h
 ·split at h;·cases h;exact⟨nO.zero,by show 0≤65535;omega,fun h=>by cases h⟩
  ·cases h;exact⟨nO.zero,by show 0≤65535;omega,fun _=>rfl⟩
theorem Ly {b:bD} {p:cU} {v:bD} (hb:nA b) (h:AL J0 b p=some v):nA v:=by
 unfold AL at h;split at h;·cases h
 ·cases h;exact⟨hb.host,hb.port,hb.path⟩
theorem Nh (sch s:List UInt8):(fD J0 sch s).length≤s.length:=by unfold fD;simp
theorem Cx {b:bD} {p:cU} {v:bD} (hb:nA b) (hp:mT p) (h:kM J0 b p=some v):nA v:=by
 have:=hp.rest;unfold kM at h;simp only at h;split at h;·exact BC (Nat.le_trans (Nh _ _) hp.rest) rfl h
 ·split at h;·exact BC (by simp;omega) rfl h
  ·split at h;·cases h;exact⟨hb.host,hb.port,fun h=>by cases h⟩
   ·split at h<;>(cases h;exact⟨hb.host,hb.port,fun h=>by cases h⟩)
theorem Tm {u v:bD} {s:List UInt8} (hs:s.length≤5000000) (hu:nA u) (ho:u.opaq=false) (h:qF J0 u s=some v):nA v:=by
 unfold qF at h;simp only at h;split at h;·cases h;exact⟨hu.host,hu.port,fun e=>by simp only at e;rw[ho] at e;cases e⟩
 ·split at h;·cases h;exact⟨hu.host,hu.port,fun e=>by simp only at e;rw[ho] at e;cases e⟩
  ·split at h;·cases h
   ·rename_i x hx;cases h;refine⟨?_,hu.port,fun e=>by simp only at e;rw[ho] at e;cases e⟩;simp only;split;·exact qW (Nat.le_trans (List.takeWhile_sublist (l:=s) _).length_le hs) hx
    ·exact hu.host
theorem LA {b:bD} {p:cU} {v:bD} (hb:nA b) (hp:mT p) (h:lM J0 b p=some v):nA v:=by
 have:=hp.rest;unfold lM at h;simp only at h;split at h;·exact Tm (by simp;omega) ⟨nO.one,by show 0≤65535;omega,fun h=>by cases h⟩ rfl h
 ·generalize QN:(if(b.scheme==aN)=true then({({bG J0 aN p with host:={kind:=1}}:bD) with host:=b.host}:bD) else{bG J0 aN p with host:={kind:=1}})=u0 at h;have a1:nO u0.host:=by rw[←QN];split<;>first|exact hb.host|exact nO.one
  have a2:u0.port≤65535:=by rw[←QN];split<;>(show 0≤65535;omega)
  have a4:u0.opaq=false:=by rw[←QN];split<;>rfl
  clear QN;have key:∀(q:List (List UInt8)) (hq:Bool) (qu:List UInt8),nA {u0 with path:=q,hasQuery:=hq,query:=qu}:=fun q hq qu=>⟨a1,a2,fun e=>by simp only at e;rw[a4] at e;cases e⟩;split at h;·cases h;exact key _ _ _
  split at h;·cases h;exact key _ _ _
  split at h;·cases h;exact key _ _ _
  ·cases h;exact key _ _ _
theorem W4 {b:bD} {p:cU} {v:bD} (hb:nA b) (hp:mT p) (h:kU J0 b p=some v):nA v:=by
 unfold kU at h;simp only at h;split at h;·exact LA hb hp h
 ·split at h;·exact BC (Nat.le_trans (Nh _ _) hp.rest) rfl h
  ·split at h;·exact Js hp h
   ·split at h;·exact Ly hb h
    ·exact Cx hb hp h
theorem aiE (l:List UInt8) {n:Nat} (h:dL l≤n):l.length≤n:=Nat.le_trans (AM l) h
theorem aiF (L:List (List UInt8)):L.length≤Aj L:=by
 induction L with
 |nil=>simp
 |cons p L ih=>rw[xO,List.length_cons];omega
theorem Ni {u:bD} (hu:nA u):u.path.length≤dL (aQ J0 u true):=by
 cases ho:u.opaq with
 |true=>rw[hu.path ho];simp
 |false=>rw[xP,mJ ho];have:=aiF u.path;omega
end Go.Proofs.YtmgmclkplepapaaGreatDoor
