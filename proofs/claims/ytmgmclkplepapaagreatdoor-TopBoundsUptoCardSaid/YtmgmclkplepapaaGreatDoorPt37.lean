/- Part of the proof of TopBoundsUptoCardSaid. Conditions: none beyond the statement. -/
import Derived.Test.YtmgmclkplepapaaGreatDoorPt36
set_option linter.all false
set_option maxRecDepth 100000
set_option maxHeartbeats 64000000
namespace Go.Proofs.YtmgmclkplepapaaGreatDoor
open Go.RowKit
def ZW (s0 s1 s2 s3 s4 s5 s6 s7 s8 s9 Na PT PU Tc Td Te QR QS QT QU:Value) (A:Option Addr) (n c:Nat) (sq:ByteArray) (bq:Bool) (bqs:ByteArray) (b1 b2:Bool):Array Value:= #[s0,s1,s2,s3,s4,s5,s6,s7,s8,s9,Na,PT,PU,Tc,Td,Te,QR,QS,.slice A n c,bif b1 then .bool bq else .bool false,bif b2 then .string bqs else .string sq,QT,QU]
theorem alI {F:Bool→Bool→Array Value} {a b:Nat} {L:Nat→Bool} {i:Nat} {W:World} {g:Nat} {t:TypeId} (h:(a !=i&&b !=i)=true) (hR:Row W g t (F (L a) (L b))):
 Row W g t (F (A5 L i a) (A5 L i b)):=by
 simp only[Bool.and_eq_true,bne_iff_ne] at h;rw[aU L h.1,aU L h.2];exact hR
theorem pW (v:Value) (L:List (List UInt8)) (w:World) (hv:bT w v (L.map aA)) (hl:L.length≤1000000000):
 Calls Tryz.prog 43 #[v] w fun e w'=>∃v',e= .returned v'∧fN w' w.heap.size v' (L.map aA)∧Below w.heap.size w w':=FK v _ w hv (by rw[List.length_map];exact hl)
theorem yJ (g:Nat) (s0 s1 s2 s3 s4 s5 s6 s7 s8 s9 Na PT PU Tc Td Te QR QS s18 QT QU q0 q1 q2 q3 q4 q5 q6 q7 q8 q9 q10 q11 q12 q13 q14 q15 q16 q17 q21 q22:Value) (A0:Option Addr) (c0:Nat) (sq bqs:ByteArray) (bq:Bool) (L0:List (List UInt8)) (w:World) (N:Nat→Prop) (W0:N g) (UE:∀x,N x→x < w.heap.size) (hl:L0.length≤1000000000) (hv:bT w (.slice A0 L0.length c0) (L0.map aA)) (hR:Row w g 34 #[s0,s1,s2,s3,s4,s5,s6,s7,s8,s9,Na,PT,PU,Tc,Td,Te,QR,QS,s18,.bool false,.string sq,QT,QU]):
 Calls Tryz.prog 138 #[.pointer (some ⟨g,0,none⟩),.agg #[q0,q1,q2,q3,q4,q5,q6,q7,q8,q9,q10,q11,q12,q13,q14,q15,q16,q17,.slice A0 L0.length c0,.bool bq,.string bqs,q21,q22]] w fun e w'=>e= .returned (.tuple #[])∧bL g w w'∧∃pv,bP N w' pv L0∧Row w' g 34 #[s0,s1,s2,s3,s4,s5,s6,s7,s8,s9,Na,PT,PU,Tc,Td,Te,QR,QS,pv,.bool bq,.string bqs,QT,QU]:=by
 have HC:=hid (fun W (hb:Below w.heap.size w W)=>pW (.slice A0 L0.length c0) L0 W (hv.below hb) hl);have HNG:=hid W0;have HNL:=hid UE;clear hv hl W0 UE;go_enter Tryz.func138,Tryz.ntmps138;go_wp2_with (refine jG rfl rfl ?_;intro gB w1 aJ hB;have UI:=aJ.cell (i:=18) rfl);obtain⟨Fe,rQ,GM⟩:=hB.out;have bC:=hR.lt;have rN:Hid (gB≠g):=hid (by omega);have HGB:Hid (w.heap.size≤gB):=hid (by omega);replace hR:=hR.below rQ;have HS:=hid ((bL.refl g w).below rQ (by omega));have JU:=hid rQ.size;refine(HC.out _ rQ).mono ?_;rintro e w2 ⟨v',rfl,h2,h3⟩;replace HS:=hid (HS.out.below h3 (by have:=hR.lt;omega));have hP:bP N w2 v' _:=bP.own h2 (fun x hx=>Nat.lt_of_lt_of_le (HNL.out x hx) JU.out);replace hR:=hR.below h3;replace aJ:=aJ.below h3;obtain⟨A,c,hv⟩:=hP.len;subst hv;have fW:=hid hP;generalize L0.length=n at*;clear Fe rQ GM hB bC h2 h3 hP UI;go_wp2_with (refine oT _ rfl hR rfl (by kernel_rfl) ?_;intro w6 Lw P8;replace hR:=Lw;replace aJ:=aJ.other P8 rN.out;replace fW:=hid (fW.out.save (bL.of P8) HNG.out);replace HS:=hid (HS.out.trans (bL.of P8));clear Lw P8;simp[Act.eval] at hR;have c19:=hR.cell (i:=19) rfl);have HI0:Hid ((bL g w w6.drew∧bP N w6.drew (.slice A n c) L0)∧Row w6.drew gB 34 #[q0,q1,q2,q3,q4,q5,q6,q7,q8,q9,q10,q11,q12,q13,q14,q15,q16,q17,.slice A0 n c0,.bool bq,.string bqs,q21,q22]∧Row w6.drew g 34 (ZW s0 s1 s2 s3 s4 s5 s6 s7 s8 s9 Na PT PU Tc Td Te QR QS QT QU A n c sq bq bqs false false)):=hid ⟨⟨HS.out.below (bB w6) (Nat.le_of_lt hR.lt),fW.out.below (bB w6)⟩,aJ,hR⟩;have aqL:=hR.lt;have aqM:=hid (fW.out.below (bB w6));have HS6:=HS;clear hR aJ HS c19;apply BS (fun L W=>(bL g w W∧bP N W (.slice A n c) L0)∧Row W gB 34 #[q0,q1,q2,q3,q4,q5,q6,q7,q8,q9,q10,q11,q12,q13,q14,q15,q16,q17,.slice A0 n c0,.bool bq,.string bqs,q21,q22]∧Row W g 34 (ZW s0 s1 s2 s3 s4 s5 s6 s7 s8 s9 Na PT PU Tc Td Te QR QS QT QU A n c sq bq bqs (L 8) (L 11))) rfl (by kernel_rfl) HI0.out;simp only[];repeat (first
  |(apply iW.step; ·rfl
    ·intro L W hI hl K hK;refine kN 4 _ _ rfl g 19 (.bool bq) rfl rfl rfl hI.2.2 rfl (by kernel_rfl) fun w' hr he=>hK w' ⟨⟨hI.1.1.trans (bL.of he),hI.1.2.save (bL.of he) HNG.out⟩,hI.2.1.other he rN.out,by rw[kM,aU L (show(11:Nat)≠8 by decide)];exact hr⟩
    simp only[pq])
  |(apply iW.step; ·rfl
    ·intro L W hI hl K hK;refine kN 9 _ _ rfl g 20 (.string bqs) rfl rfl rfl hI.2.2 rfl (by kernel_rfl) fun w' hr he=>hK w' ⟨⟨hI.1.1.trans (bL.of he),hI.1.2.save (bL.of he) HNG.out⟩,hI.2.1.other he rN.out,by rw[kM,aU L (show(8:Nat)≠11 by decide)];exact hr⟩
    simp only[pq])
  |(apply iW.step; ·rfl
    ·intro L W hI hl K hK;have c19:=hI.2.1.cell (i:=19) rfl;have c20:=hI.2.1.cell (i:=20) rfl;go_simp;exact hK W ⟨hI.1,hI.2.1,alI (a:=8) (b:=11) (by decide) hI.2.2⟩
    simp only[pq]))
 refine iW.nil ?_;intro L W iJ hI;have pF:=hI.2.2;rw[iJ 8 (by decide),iJ 11 (by decide)] at pF;simp only[ZW,cond_true] at pF;have Cu:=hI.1;clear hI iJ
 go_end0
 exact⟨rfl,Cu.1,_,Cu.2,pF⟩
theorem yK (g:Nat) (s0 s1 s2 s3 s4 s5 s6 s7 s8 s9 Na PT PU Tc Td Te QR QS s18 s20 QT QU q0 q1 q2 q3 q4 q5 q6 q7 q8 q9 q10 q11 q12 q13 q14 q15 q16 q17 q19 q20 q21 q22:Value) (A0:Option Addr) (c0:Nat) (L0:List (List UInt8)) (w:World) (N:Nat→Prop) (W0:N g) (UE:∀x,N x→x < w.heap.size) (hl:L0.length≤1000000000) (hv:bT w (.slice A0 L0.length c0) (L0.map aA)) (hR:Row w g 34 #[s0,s1,s2,s3,s4,s5,s6,s7,s8,s9,Na,PT,PU,Tc,Td,Te,QR,QS,s18,.bool true,s20,QT,QU]):
 Calls Tryz.prog 138 #[.pointer (some ⟨g,0,none⟩),.agg #[q0,q1,q2,q3,q4,q5,q6,q7,q8,q9,q10,q11,q12,q13,q14,q15,q16,q17,.slice A0 L0.length c0,q19,q20,q21,q22]] w fun e w'=>e= .returned (.tuple #[])∧bL g w w'∧∃pv,bP N w' pv L0∧Row w' g 34 #[s0,s1,s2,s3,s4,s5,s6,s7,s8,s9,Na,PT,PU,Tc,Td,Te,QR,QS,pv,.bool true,s20,QT,QU]:=by
 have HC:=hid (fun W (hb:Below w.heap.size w W)=>pW (.slice A0 L0.length c0) L0 W (hv.below hb) hl);have HNG:=hid W0;have HNL:=hid UE;clear hv hl W0 UE;go_enter Tryz.func138,Tryz.ntmps138;go_wp2_with (refine jG rfl rfl ?_;intro gB w1 aJ hB;have UI:=aJ.cell (i:=18) rfl);obtain⟨Fe,rQ,GM⟩:=hB.out;have bC:=hR.lt;have rN:Hid (gB≠g):=hid (by omega);have HGB:Hid (w.heap.size≤gB):=hid (by omega);replace hR:=hR.below rQ;have HS:=hid ((bL.refl g w).below rQ (by omega));have JU:=hid rQ.size;refine(HC.out _ rQ).mono ?_;rintro e w2 ⟨v',rfl,h2,h3⟩;replace HS:=hid (HS.out.below h3 (by have:=hR.lt;omega));have hP:bP N w2 v' _:=bP.own h2 (fun x hx=>Nat.lt_of_lt_of_le (HNL.out x hx) JU.out);replace hR:=hR.below h3;replace aJ:=aJ.below h3;obtain⟨A,c,hv⟩:=hP.len;subst hv;have fW:=hid hP;generalize L0.length=n at*;clear Fe rQ GM hB bC h2 h3 hP UI;go_wp2_with (refine oT _ rfl hR rfl (by kernel_rfl) ?_;intro w6 Lw P8;replace hR:=Lw;replace aJ:=aJ.other P8 rN.out;replace fW:=hid (fW.out.save (bL.of P8) HNG.out);replace HS:=hid (HS.out.trans (bL.of P8));clear Lw P8;simp[Act.eval] at hR;have c19:=hR.cell (i:=19) rfl)
 go_end0
 exact⟨rfl,HS.out,_,fW.out,hR⟩
def B2 (o:Option bD) (w:World) (e:Ending) (w':World):Prop:=Below w.heap.size w w'∧match o with
 |none=>e=Aa
 |some u=>∃pv,e= .returned (.agg (dP pv u))∧bP (fun b=>b < w.heap.size) w' pv u.path
theorem bP.lD {N N':Nat→Prop} {w:World} {v:Value} {L:List (List UInt8)} (h:bP N w v L) (hn:∀x,N' x→N x):bP N' w v L:=by
 rcases h with h|⟨b,off,c,hb,h⟩;·exact .inl h
 ·exact .inr ⟨b,off,c,fun hx=>hb (hn _ hx),h⟩
structure mS (p:cU):Prop where
 scheme:p.scheme.length≤5000000
 rest:p.rest.length≤5000000
 query:p.query.length≤5000000
 frag:p.frag.length≤5000000
theorem Nb {u v:bD} {s:List UInt8} (hs:s.length≤5000000) (h:tH J0 u s=some v):nN v.host:=by
 unfold tH at h;split at h;·cases h
 ·rename_i a ha;cases h;refine Lv (Nat.le_trans ?_ hs) ha;exact(List.takeWhile_sublist (l:=s) _).length_le
theorem Nc:(⟨#[47,47]⟩:ByteArray)=aA [47,47]:=rfl
theorem Th:(⟨#[47]⟩:ByteArray)=aA [47]:=rfl
theorem Ti:(⟨#[32]⟩:ByteArray)=aA [32]:=rfl
theorem alJ (l:List UInt8):aA l++(⟨#[37,50,48]⟩:ByteArray)=aA (l++[37,50,48]):=by rw[iL];rfl
theorem P9 (p:cU) (hp:mS p) (w:World) (hW:Laid w):Calls Tryz.prog 99 #[.agg (fK p)] w fun e w'=>B2 (qD J0 p) w e w':=by
 have HW:=hid hW;obtain⟨p0,pc,pr,hq,qu,hf,fr⟩:=p;obtain⟨b1,b2,b3,b4⟩:=hp;simp only at b1 b2 b3 b4;have rF:=hid (fun W=>wO pc ⟨p0,pc,pr,hq,qu,hf,fr⟩ (by simp only;omega) (by simp only;omega) W);have jA:Hid (qD J0 ⟨p0,pc,pr,hq,qu,hf,fr⟩=if[47,47].isPrefixOf pr then tH J0 (bG J0 pc ⟨p0,pc,pr,hq,qu,hf,fr⟩) (pr.drop 2)
  else if[47].isPrefixOf pr then some {bG J0 pc ⟨p0,pc,pr,hq,qu,hf,fr⟩ with path:=J0.dU pc [] (pr.drop 1)}
  else some {bG J0 pc ⟨p0,pc,pr,hq,qu,hf,fr⟩ with opaq:=true,flat:=rS ⟨p0,pc,pr,hq,qu,hf,fr⟩ (pN 0 pr)}):=hid rfl
 have tG:bG J0 pc ⟨p0,pc,pr,hq,qu,hf,fr⟩={scheme:=pc,hasQuery:=hq,query:=pN (if aV (aA pc) then 3 else 2) qu,hasFrag:=hf,frag:=pN 1 fr}:=rfl;rw[tG] at rF jA;have HE0:=hid (fun W=>oI pr 0 0 rfl W (by omega));have JV:=hid (fun g pv u h8 w hW hg hR N h1 h2 mC=>B1 g pv u h8 (pr.drop 2) (by simp;omega) w hW hg hR N h1 h2 mC);have F8:=fun u v=> @Nb u v (pr.drop 2) (by simp;omega);have xI:=hid (fun w=>jC pc (.slice none 0 0) [] (pr.drop 1) w (.inl ⟨rfl,rfl⟩) (by simp) (by simp;omega));have hel:=IC (0:Int) pr;have W2:(pN 0 pr).length≤15000000:=by show(vO ((0:Nat):Int) pr).length≤_;simp only[Int.natCast_zero];omega
 generalize pN (if aV (aA pc) then 3 else 2) qu=qv at*;generalize pN 1 fr=fv at*;generalize pN 0 pr=ev at*;generalize J0.dU pc [] (pr.drop 1)=sg at*;have HB:Hid (Below w.heap.size w w):=hid (Below.refl _ _);simp only[fK] at rF⊢;simp only[dP,eY,List.map,List.cons_append,List.nil_append] at rF;clear hW tG hel b1 b3 b4;by_cases h2:([47,47].isPrefixOf pr)=true;rw[if_pos h2] at jA;have HX:=hid (fun w=>iZ pr [47,47] h2 w);clear h2 xI HE0;generalize hU:({scheme:=pc,hasQuery:=hq,query:=qv,hasFrag:=hf,frag:=fv}:bD)=U at jA;have HU:=hid hU;clear hU;rcases hk:tH J0 U (pr.drop 2) with _|v;have HF:=hid (jA.out.trans hk);have HK:=hid hk;rw[HF.out];clear jA hk;have tg:=Tg.k 0;rotate_left;have HF:=hid (jA.out.trans hk);have HK:=hid hk;have qJ:=(F8 U v hk).six;obtain⟨vs,vu,vp,⟨vk,vn,vf,v6⟩,vh,vo,vq,vfl,vpa,vhq,vqu,vhf,vfr⟩:=v;obtain⟨x0,x1,x2,x3,x4,x5,x6,x7,rfl⟩:=eight qJ;clear jA hk F8 qJ;have tg:=Tg.k 1;rotate_left;rw[if_neg h2] at jA;have HX:=hid (fun w=>jX pr [47,47] (Bool.eq_false_iff.mpr h2) w);clear h2 JV F8;by_cases h1:([47].isPrefixOf pr)=true;have HF:=hid (jA.out.trans (if_pos h1));have HX1:=hid (fun w=>iZ pr [47] h1 w);obtain⟨t1,ht1⟩:∃t1,t1=pr.drop 1:=⟨_,rfl⟩;rw[show List.drop [(47:UInt8)].length pr=t1 from ht1.symm] at HX1;rw[←ht1] at xI;clear ht1;clear h1 jA HE0;have tg:=Tg.k 2;rotate_left;have pI:=hid (jA.out.trans (if_neg h1));have HX1:=hid (fun w=>jX pr [47] (Bool.eq_false_iff.mpr h1) w);have HQ:=hid (fun w=>vI ev 32 (by omega) w);have hzv:=aD ev;have Dw:=alJ ev.dropLast;have hzd:(aA ev.dropLast).size≤15000000:=by rw[aD,List.length_dropLast];omega
 have dO:((hq||hf)=false)∨((hq||hf)=true∧ev.getLast? =some 32)∨((hq||hf)=true∧¬ev.getLast? =some 32):=by
  cases (hq||hf);·exact .inl rfl
  ·by_cases h:ev.getLast? =some 32;·exact .inr (.inl ⟨rfl,h⟩)
   ·exact .inr (.inr ⟨rfl,h⟩)
 clear h1 jA xI hzv;rcases dO with hqf|⟨hqf,hl⟩|⟨hqf,hl⟩;have HF:Hid (qD J0 ⟨p0,pc,pr,hq,qu,hf,fr⟩=some {scheme:=pc,hasQuery:=hq,query:=qv,hasFrag:=hf,frag:=fv,opaq:=true,flat:=ev}):=hid (by rw[pI.out];unfold rS;simp only[hqf];simp);clear pI HQ;obtain⟨rfl,rfl⟩:hq=false∧hf=false:=by cases hq<;>cases hf<;>simp_all
 clear hqf;have tg:=Tg.k 3;rotate_left;have HF:Hid (qD J0 ⟨p0,pc,pr,hq,qu,hf,fr⟩=some {scheme:=pc,hasQuery:=hq,query:=qv,hasFrag:=hf,frag:=fv,opaq:=true,flat:=ev.dropLast++[37,50,48]}):=hid (by rw[pI.out];unfold rS;simp only[hqf,hl];simp);rw[if_pos hl,decide_eq_true hl] at HQ;clear pI hl;have hqq:hq=true∨(hq=false∧hf=true):=by cases hq<;>cases hf<;>simp_all
 clear hqf;rcases hqq with rfl|⟨rfl,rfl⟩;skip;have tg:=Tg.k 4;rotate_left;skip;have tg:=Tg.k 5;rotate_left;have HF:Hid (qD J0 ⟨p0,pc,pr,hq,qu,hf,fr⟩=some {scheme:=pc,hasQuery:=hq,query:=qv,hasFrag:=hf,frag:=fv,opaq:=true,flat:=ev}):=hid (by rw[pI.out];unfold rS;simp only[hqf,hl];simp[hl]);rw[if_neg hl,decide_eq_false hl] at HQ;clear pI hl;have hqq:hq=true∨(hq=false∧hf=true):=by cases hq<;>cases hf<;>simp_all
 clear hqf;rcases hqq with rfl|⟨rfl,rfl⟩;skip;have tg:=Tg.k 6;rotate_left;skip;have tg:=Tg.k 7;all_goals
  go_enter Tryz.func99,Tryz.ntmps99;go_wp2_with (first|(refine jG rfl rfl ?_;intro gP w2 aP hN;have x0:=hN.out.1;have Cb:w.heap.size≤gP:=(by have:=HB.out.size;omega);clear x0;replace HB:=aR HB hN.out.2.1;clear hN)|(refine eX rfl (aO _) ?_;intro gA w2 aL hN;have l0:=aP.lt;have x0:=hN.out.1;have dY:gP≠gA:=(by omega);have pC:w.heap.size≤gA:=(by have:=HB.out.size;omega);clear l0 x0;replace aP:=aP.below hN.out.2.1;replace HB:=aR HB hN.out.2.1;clear hN)|(refine fF rfl aP CO rfl rfl ?_)|(refine eC 1 rfl aP (.string (aA pc)) rfl rfl L9 ?_));refine(rF.out _).mono ?_;rintro e w3 ⟨rfl,cF⟩;replace aP:=aP.below cF;replace aL:=aL.below cF;replace HB:=aR HB cF;clear cF;go_wp2_with (first|(refine eX rfl (aO _) ?_;intro gU w2 bH hN;have l0:=aP.lt;have l1:=aL.lt;have x0:=hN.out.1;have bN:gP≠gU:=(by omega);have bI:gA≠gU:=(by omega);have dZ:w.heap.size≤gU:=(by have:=HB.out.size;omega);clear l0 l1 x0;replace aP:=aP.below hN.out.2.1;replace aL:=aL.below hN.out.2.1;replace HB:=aR HB hN.out.2.1;clear hN)|(refine lU rfl bH rfl (by kernel_rfl) ?_;intro w1 aH aB;replace aP:=aP.other aB (by first|exact bN|exact Ne.symm cZ);replace aL:=aL.other aB (by first|exact bI|exact Ne.symm bY);replace HB:=bU HB aB.1 dZ;replace bH:=aH;clear aB aH)|(refine eC 2 rfl aP (.string (aA pr)) rfl rfl L9 ?_));rw[Nc];refine(HX.out _).mono ?_;rintro e w' ⟨rfl,rfl⟩;go_wp2_with (first|(refine eC 2 rfl aP (.string (aA pr)) rfl rfl L9 ?_)|(refine eC 0 rfl bH (.string (aA pc)) rfl rfl L9 ?_)|(refine eC 3 rfl aP (.bool false) rfl rfl L4 ?_)|(refine eC 5 rfl aP (.bool false) rfl rfl L4 ?_)|(refine eC 3 rfl aP (.bool true) rfl rfl L4 ?_)|(refine eC 5 rfl aP (.bool hf) rfl rfl L4 ?_)|(refine eC 5 rfl aP (.bool true) rfl rfl L4 ?_));first
  |(first|have:Tg 0:=tg|have:Tg 1:=tg)
   refine(JV.out gU (.slice none 0 0) U (by rw[←HU.out];rfl) _ (HW.out.below HB.out HW.out.size) (by have:=HW.out.size;omega) (by rw[←HU.out];exact bH) (fun b=>b=gU∨b=gA∨b < w.heap.size) (.inl rfl) (by rintro x (rfl|rfl|hx);exact bH.lt;exact aL.lt;exact Nat.lt_of_lt_of_le hx HB.out.size) (by rw[←HU.out];exact bP.nil _ _)).mono ?_;rintro e w5 ⟨nH,h5⟩;rw[HK.out] at h5;first
   |have:Tg 1:=tg;obtain⟨rfl,pv,pJ,CV⟩:=h5;simp only[dP,eY,List.map,List.cons_append,List.nil_append] at pJ CV;replace aP:=aP.save nH (by first|exact bN|exact Ne.symm cZ);replace aL:=aL.save nH (by first|exact bI|exact Ne.symm bY)
   |simp only at h5;subst h5
   replace HB:=bU HB nH.1 dZ;first
   |have:Tg 1:=tg;replace bH:=pJ;obtain⟨A,c,mC⟩:=CV.len;subst mC;have fW:=hid CV;generalize vpa.length=vn9 at*;clear nH pJ CV
   |clear nH aP aL bH;unfold Aa
  |rw[Th];refine(HX1.out _).mono ?_;rintro e w' ⟨rfl,rfl⟩;go_wp2_with (first|(refine eC 2 rfl aP (.string (aA pr)) rfl rfl L9 ?_)|(refine eC 0 rfl bH (.string (aA pc)) rfl rfl L9 ?_)|(refine oT _ rfl bH rfl (by kernel_rfl) ?_;intro w1 aH aB;replace aP:=aP.other aB (by first|exact bN|exact Ne.symm cZ);replace aL:=aL.other aB (by first|exact bI|exact Ne.symm bY);replace HB:=bU HB aB.1 dZ;replace bH:=aH;clear aB aH;simp[Act.eval] at bH;have c5:=aP.cell (i:=5) rfl)|(refine eC 3 rfl aP (.bool false) rfl rfl L4 ?_)|(refine eC 5 rfl aP (.bool false) rfl rfl L4 ?_)|(refine eC 3 rfl aP (.bool true) rfl rfl L4 ?_)|(refine eC 5 rfl aP (.bool hf) rfl rfl L4 ?_)|(refine eC 5 rfl aP (.bool true) rfl rfl L4 ?_));first
   |have:Tg 2:=tg;refine(xI.out _).mono ?_;rintro e w5 ⟨v',rfl,h5,aM⟩;have hP:bP (fun b=>b=gU∨b=gA∨b < w.heap.size) w5 v' _:=bP.own h5 (by rintro x (rfl|rfl|hx);exact bH.lt;exact aL.lt;exact Nat.lt_of_lt_of_le hx HB.out.size)
   |refine(HE0.out _).mono ?_;rintro e w5 ⟨rfl,aM⟩
   replace aP:=aP.below aM;replace aL:=aL.below aM;replace bH:=bH.below aM;replace HB:=aR HB aM;clear aM;first
   |have:Tg 2:=tg;obtain⟨A,c,mC⟩:=hP.len;subst mC;have fW:=hid hP;generalize tE:sg.length=n9 at*;clear h5 hP tE
   |have:Tg 3:=tg
   |go_wp2_with (first|(refine oT _ rfl bH rfl (by kernel_rfl) ?_;intro w1 aH aB;replace aP:=aP.other aB (by first|exact bN|exact Ne.symm cZ);replace aL:=aL.other aB (by first|exact bI|exact Ne.symm bY);replace HB:=bU HB aB.1 dZ;replace bH:=aH;clear aB aH;simp[Act.eval] at bH;have c5:=aP.cell (i:=5) rfl)|(refine fF rfl bH jP rfl rfl ?_)|(refine lU rfl aL rfl (by kernel_rfl) ?_;intro w1 aH aB;replace aP:=aP.other aB (by first|exact dY|exact Ne.symm tY);replace bH:=bH.other aB (by first|exact bY|exact Ne.symm bI);replace HB:=bU HB aB.1 pC;replace aL:=aH;clear aB aH)|(refine eC 2 rfl aP (.string (aA pr)) rfl rfl L9 ?_)|(refine eC 3 rfl aP (.bool true) rfl rfl L4 ?_)|(refine eC 5 rfl aP (.bool hf) rfl rfl L4 ?_)|(refine eC 17 rfl bH (.string (aA ev)) rfl rfl L9 ?_)|(refine eC 3 rfl aP (.bool false) rfl rfl L4 ?_)|(refine eC 5 rfl aP (.bool true) rfl rfl L4 ?_));rw[Ti];refine(HQ.out _).mono ?_;rintro e w' ⟨rfl,rfl⟩
  go_wp2_with (first|(refine fF rfl bH jP rfl rfl ?_)|(refine lU rfl aL rfl (by kernel_rfl) ?_;intro w1 aH aB;replace aP:=aP.other aB (by first|exact dY|exact Ne.symm tY);replace bH:=bH.other aB (by first|exact bY|exact Ne.symm bI);replace HB:=bU HB aB.1 pC;replace aL:=aH;replace fW:=hid (fW.out.save (bL.of aB) (by first|exact .inl rfl|exact .inr (.inl rfl)));clear aB aH)|(refine oT _ rfl bH rfl (by kernel_rfl) ?_;intro w1 aH aB;replace aP:=aP.other aB (by first|exact bN|exact Ne.symm cZ);replace aL:=aL.other aB (by first|exact bI|exact Ne.symm bY);replace HB:=bU HB aB.1 dZ;replace bH:=aH;replace fW:=hid (fW.out.save (bL.of aB) (by first|exact .inl rfl|exact .inr (.inl rfl)));clear aB aH;simp[Act.eval] at bH)|(refine oT _ rfl bH rfl (by kernel_rfl) ?_;intro w1 aH aB;replace aP:=aP.other aB (by first|exact bN|exact Ne.symm cZ);replace aL:=aL.other aB (by first|exact bI|exact Ne.symm bY);replace HB:=bU HB aB.1 dZ;replace bH:=aH;clear aB aH;simp[Act.eval] at bH;have c5:=aP.cell (i:=5) rfl)|(refine lU rfl aL rfl (by kernel_rfl) ?_;intro w1 aH aB;replace aP:=aP.other aB (by first|exact dY|exact Ne.symm tY);replace bH:=bH.other aB (by first|exact bY|exact Ne.symm bI);replace HB:=bU HB aB.1 pC;replace aL:=aH;clear aB aH)|(refine eC 2 rfl aP (.string (aA pr)) rfl rfl L9 ?_)|(refine eC 3 rfl aP (.bool false) rfl rfl L4 ?_)|(refine eC 5 rfl aP (.bool false) rfl rfl L4 ?_)|(refine eC 17 rfl bH (.string (aA ev)) rfl rfl L9 ?_)|(refine eC 3 rfl aP (.bool true) rfl rfl L4 ?_)|(refine eC 5 rfl aP (.bool hf) rfl rfl L4 ?_)|(refine eC 5 rfl aP (.bool true) rfl rfl L4 ?_));first
  |have:Tg 0:=tg;exact⟨rfl,HB.out,rfl⟩
  |refine bK rfl rfl aL Tryz.underlying34 rfl (by kernel_rfl) rfl ?_;rw[HF.out];first
   |(first|have:Tg 1:=tg|have:Tg 2:=tg)
    exact⟨HB.out,_,rfl,fW.out.lD fun x hx=> .inr (.inr hx)⟩
   |exact⟨HB.out,_,rfl,.inl ⟨rfl,rfl⟩⟩
theorem UJ:∀n:Fin 16,kR (Kk n.val)=1:=by decide+kernel
theorem adS (k:Int) (c:UInt8):dL (GC k c)≤5:=by
 unfold GC;split
 ·have h:=c.toNat_lt;have h1:=UJ ⟨c.toNat / 16,by omega⟩;have h2:=UJ ⟨c.toNat % 16,by omega⟩;simp only at h1 h2;have h3:kR 37=1:=by decide
  rw[lM,lM,lM,eM,h1,h2,h3];omega
 ·rw[lM,eM];have:=KP c;omega
theorem Nd (k:Int) (l:List UInt8):dL (vO k l)≤5*l.length:=by
 induction l with
 |nil=>simp[vO,eM]
 |cons c t ih=>
  have h:vO k (c::t)=GC k c++vO k t:=by simp[vO]
  rw[h,cM,List.length_cons];have:=adS k c;omega
theorem Tj (s:List UInt8) (L:List (List UInt8)):Ai (J0.iG s L)≤Ai L:=by
 have h:J0.iG s L=TX bX (jS (aA s)) L:=by
  show(lR (aA s) (L.map aA)).map (·.data.toList)=_;rw[Bh,List.map_map];have:((fun x:ByteArray=>x.data.toList)∘aA)=id:=by funext l;exact aC l
  rw[this,List.map_id]
 rw[h,NI];exact Hp _ _
theorem Nf (a b:List (List UInt8)):Ai (a++b)=Ai a+Ai b:=by unfold Ai;rw[List.flatMap_append,cM]
def DY (L:List (List UInt8)):Nat:=(L.map fun p=>if sL bX p=true then 0 else 1+5*p.length).sum
theorem aiB (p:List UInt8) (h:jM p=true):dL (bX.drv p)≤5*p.length:=by
 show dL (p.take 1++[58])≤_;rw[cM];have h2:dL [58]=1:=by decide
 have h3:=Ep (p.take 1);rw[List.length_take] at h3;have h4:2≤p.length:=by
  match p with
  |[]=>cases h
  |[a]=>cases h
  |a::b::r=>simp
 omega
theorem adT (file:Bool) (out:List (List UInt8)) (p:List UInt8):Ai (xJ bX file out p)≤Ai out+(if sL bX p=true then 0 else 1+5*p.length):=by
 unfold xJ sL;by_cases h1:bX.Q1 p=true;·rw[if_pos h1,h1,NI];have:=Hp out (TX bX file out).length;simp;exact this
 ·rw[if_neg h1];by_cases h2:bX.dot p=true;·rw[if_pos h2];omega
  ·have h4:(bX.Q1 p||bX.dot p)=false:=by simp[h1,h2]
   rw[if_neg h2,h4];simp only[Bool.false_eq_true,if_false];split;·rename_i h3;rw[Nf,xN,oQ];simp only[Bool.and_eq_true] at h3;have:=aiB p h3.2.2;omega
   ·rw[Nf,xN,oQ];have:dL (bX.enc p)≤5*p.length:=Nd 4 p;omega
theorem aiC (file:Bool):∀(L out:List (List UInt8)),Ai (Ei bX file out L)≤Ai out+DY L:=by
 intro L;induction L with
 |nil=>intro out;rw[NH];omega
 |cons p L ih=>
  intro out;rw[Ek];have h1:=ih (xJ bX file out p);have h2:=adT file out p;have h3:DY (p::L)=(if sL bX p=true then 0 else 1+5*p.length)+DY L:=by simp[DY]
  omega
def vQ (L:List (List UInt8)):Nat:=(L.map fun p=>1+5*p.length).sum
theorem adU (L:List (List UInt8)):DY L≤vQ L:=by
 induction L with
 |nil=>simp[DY,vQ]
 |cons p L ih=>
  have h3:DY (p::L)=(if sL bX p=true then 0 else 1+5*p.length)+DY L:=by simp[DY]
  have h4:vQ (p::L)=1+5*p.length+vQ L:=by simp[vQ]
  rw[h3,h4];split<;>omega
theorem adV (L:List (List UInt8)):Ai (KG bX L)+DY L≤vQ L:=by
 rcases List.eq_nil_or_concat L with rfl|⟨D,p,rfl⟩;·show Ai []+_≤_;simp[oQ,DY,vQ]
 ·have h1:=adU D;rw[List.concat_eq_append];have h2:KG bX (D++[p])=if sL bX p=true then[[]] else[]:=by unfold KG;rw[List.getLast?_append];rfl
  have h3:DY (D++[p])=DY D+if sL bX p=true then 0 else 1+5*p.length:=by simp[DY]
  have h4:vQ (D++[p])=vQ D+(1+5*p.length):=by simp[vQ]
  rw[h2,h3,h4];split;·rw[xN,oQ,eM];omega
  ·rw[oQ];omega
theorem ZX (sp:Bool):∀t:List UInt8,vQ (dU sp t)≤5*t.length+1:=by
 intro t;induction t with
 |nil=>simp[dU,vQ]
 |cons c r ih=>
  unfold dU;rw[List.length_cons];split
  ·have:vQ ([]::dU sp r)=1+vQ (dU sp r):=by simp[vQ]
   omega
  ·split;·simp[vQ];omega
   ·rename_i p ps hp;rw[hp] at ih;have h1:vQ ((c::p)::ps)=1+5*(p.length+1)+vQ ps:=by simp[vQ]
    have h2:vQ (p::ps)=1+5*p.length+vQ ps:=by simp[vQ]
    omega
theorem adW (s:List UInt8) (L:List (List UInt8)) (t:List UInt8):Ai (J0.dU s L t)≤Ai L+5*t.length+1:=by show Ai (Ej bX (jS (aA s)) L (dU (aV (aA s)) t))≤_;unfold Ej;rw[Nf];have h1:=aiC (jS (aA s)) (dU (aV (aA s)) t) L;have h2:=adV (dU (aV (aA s)) t);have h3:=ZX (aV (aA s)) t;omega
theorem ZY:LY J0 where
 enc:=fun k l=>Nd k l
 iG:=Tj
 dU:=adW
 host:=fun s b h hh=>X5 Bg (fun k l=>Nd k l) hh
 none:=rfl
 port:=fun s t has n h=>NT n (NU h)
structure mZ (u:bD):Prop where
 host:nN u.host
 port:u.port≤65535
 path:u.opaq=true→u.path=[]
theorem mZ.zero:mZ {}:=⟨nN.zero,by decide,fun h=>by cases h⟩
theorem UK {s t:List UInt8} {has:Bool} {n:Nat} (h:J0.uQ s t=some (has,n)):n≤65535:=NU h
theorem Cv {sch us ps s:List UInt8} {a:AH} (h:dX J0 sch us ps s=some a):a.port≤65535:=by
 unfold dX at h;split at h;·cases h
 ·split at h;·cases h
  ·split at h;·cases h
   ·rename_i hp;cases h;exact UK hp
 ·split at h;·cases h
  ·split at h;·cases h
   ·rename_i hp;cases h;exact UK hp
theorem Qa {sch s:List UInt8} {a:AH} (h:fI J0 sch s=some a):a.port≤65535:=by
 unfold fI at h;split at h
 ·split at h;·cases h
  ·exact Cv h
 ·exact Cv h
theorem BB {u v:bD} {s:List UInt8} (hs:s.length≤5000000) (hu:u.opaq=false) (h:tH J0 u s=some v):mZ v:=by
 have h1:=Nb hs h;unfold tH at h;split at h;·cases h
 ·rename_i a ha;cases h;exact⟨h1,Qa ha,fun e=>by rw[show(Ho u a (Db J0 u s)).opaq=u.opaq from rfl,hu] at e;cases e⟩
theorem nN.one:nN {kind:=1}:=⟨rfl,by decide,by decide,by decide,by decide⟩
theorem Tk (sch:List UInt8) (p:cU):mZ (bG J0 sch p):=⟨nN.zero,by show 0≤65535;omega,fun h=>by cases h⟩
theorem Jr {p:cU} {v:bD} (hp:mS p) (h:qD J0 p=some v):mZ v:=by
 unfold qD at h;simp only at h;split at h;·exact BB (by have:=hp.rest;simp;omega) rfl h
 ·split at h;·cases h;exact⟨nN.zero,by show 0≤65535;omega,fun h=>by cases h⟩
  ·cases h;exact⟨nN.zero,by show 0≤65535;omega,fun _=>rfl⟩
theorem Lx {b:bD} {p:cU} {v:bD} (hb:mZ b) (h:AK J0 b p=some v):mZ v:=by
 unfold AK at h;split at h;·cases h
 ·cases h;exact⟨hb.host,hb.port,hb.path⟩
theorem Ng (sch s:List UInt8):(fD J0 sch s).length≤s.length:=by unfold fD;simp
theorem Cw {b:bD} {p:cU} {v:bD} (hb:mZ b) (hp:mS p) (h:kL J0 b p=some v):mZ v:=by
 have:=hp.rest;unfold kL at h;simp only at h;split at h;·exact BB (Nat.le_trans (Ng _ _) hp.rest) rfl h
 ·split at h;·exact BB (by simp;omega) rfl h
  ·split at h;·cases h;exact⟨hb.host,hb.port,fun h=>by cases h⟩
   ·split at h<;>(cases h;exact⟨hb.host,hb.port,fun h=>by cases h⟩)
theorem Tl {u v:bD} {s:List UInt8} (hs:s.length≤5000000) (hu:mZ u) (ho:u.opaq=false) (h:qE J0 u s=some v):mZ v:=by
 unfold qE at h;simp only at h;split at h;·cases h;exact⟨hu.host,hu.port,fun e=>by simp only at e;rw[ho] at e;cases e⟩
 ·split at h;·cases h;exact⟨hu.host,hu.port,fun e=>by simp only at e;rw[ho] at e;cases e⟩
  ·split at h;·cases h
   ·rename_i x hx;cases h;refine⟨?_,hu.port,fun e=>by simp only at e;rw[ho] at e;cases e⟩;simp only;split;·exact qV (Nat.le_trans (List.takeWhile_sublist (l:=s) _).length_le hs) hx
    ·exact hu.host
theorem Ly {b:bD} {p:cU} {v:bD} (hb:mZ b) (hp:mS p) (h:lL J0 b p=some v):mZ v:=by
 have:=hp.rest;unfold lL at h;simp only at h;split at h;·exact Tl (by simp;omega) ⟨nN.one,by show 0≤65535;omega,fun h=>by cases h⟩ rfl h
 ·generalize QL:(if(b.scheme==aN)=true then({({bG J0 aN p with host:={kind:=1}}:bD) with host:=b.host}:bD) else{bG J0 aN p with host:={kind:=1}})=u0 at h;have a1:nN u0.host:=by rw[←QL];split<;>first|exact hb.host|exact nN.one
  have a2:u0.port≤65535:=by rw[←QL];split<;>(show 0≤65535;omega)
  have a4:u0.opaq=false:=by rw[←QL];split<;>rfl
  clear QL;have key:∀(q:List (List UInt8)) (hq:Bool) (qu:List UInt8),mZ {u0 with path:=q,hasQuery:=hq,query:=qu}:=fun q hq qu=>⟨a1,a2,fun e=>by simp only at e;rw[a4] at e;cases e⟩;split at h;·cases h;exact key _ _ _
  split at h;·cases h;exact key _ _ _
  split at h;·cases h;exact key _ _ _
  ·cases h;exact key _ _ _
theorem W3 {b:bD} {p:cU} {v:bD} (hb:mZ b) (hp:mS p) (h:kS J0 b p=some v):mZ v:=by
 unfold kS at h;simp only at h;split at h;·exact Ly hb hp h
 ·split at h;·exact BB (Nat.le_trans (Ng _ _) hp.rest) rfl h
  ·split at h;·exact Jr hp h
   ·split at h;·exact Lx hb h
    ·exact Cw hb hp h
theorem aiD (l:List UInt8) {n:Nat} (h:dL l≤n):l.length≤n:=Nat.le_trans (AL l) h
theorem aiE (L:List (List UInt8)):L.length≤Ai L:=by
 induction L with
 |nil=>simp
 |cons p L ih=>rw[xN,List.length_cons];omega
theorem Nh {u:bD} (hu:mZ u):u.path.length≤dL (aQ J0 u true):=by
 cases ho:u.opaq with
 |true=>rw[hu.path ho];simp
 |false=>rw[xO,mI ho];have:=aiE u.path;omega
end Go.Proofs.YtmgmclkplepapaaGreatDoor
