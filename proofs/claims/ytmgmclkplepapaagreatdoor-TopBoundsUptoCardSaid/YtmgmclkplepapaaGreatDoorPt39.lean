/- Part of the proof of TopBoundsUptoCardSaid. Conditions: none beyond the statement. -/
import Derived.Test.YtmgmclkplepapaaGreatDoorPt38
set_option linter.all false
set_option maxRecDepth 100000
set_option maxHeartbeats 64000000
namespace Go.Proofs.YtmgmclkplepapaaGreatDoor
open Go.RowKit
theorem adY (s:List UInt8) (w:World):Calls Tryz.prog 175 #[.string (aA s)] w fun e w'=>e= .returned (.bool (jN s))∧w=w':=by have h:=sU (aA s) w;rwa[aC] at h
theorem Qh (g:Nat) (pv:Value) (u:bD) (h8:u.host.six.length=8) (s:List UInt8) (hs:s.length≤5000000) (w:World) (hW:Laid w) (hR:Row w g 34 (dP pv u)) (N:Nat→Prop) (W1:N g) (UF:∀x,N x→x < w.heap.size):
 Calls Tryz.prog 134 #[.pointer (some ⟨g,0,none⟩),.string (aA s)] w fun e w'=>bL g w w'∧match qF J0 u s with
  |none=>e=Ab
  |some v=>e= .returned (.tuple #[])∧∃pv',Row w' g 34 (dP pv' v)∧bP N w' pv' v.path:=by
 have HW:=hid hW;have HNG:=hid W1;have HNL:=hid UF;clear W1 UF;obtain⟨sch,us0,ps0,⟨k0,n0,f0,aoB⟩,XF,po0,oq,fl,path,hq,qu,hf0,fr⟩:=u;simp only at h8;obtain⟨y0,y1,y2,y3,y4,y5,y6,y7,rfl⟩:=eight h8;have HC:=hid (fun W=>Pj s true (by omega) W);have oO:(dN true s).1.length≤s.length∧(dN true s).2.length≤s.length:=by have h1:=(List.takeWhile_sublist (l:=s) fun c=> !fR true c).length_le;have h2:=bW (fun c=> !fR true c) s;exact⟨h1,h2⟩
 have HD:=hid (fun W=>adY (dN true s).1 W);have HH:=hid (fun W hW=>mS (dN true s).1 true (by omega) W hW);have HO:=fun a=> @qW (dN true s).1 true a (by omega);have HP:=hid (fun W=>DX sch (dN true s).2 (by omega) W);have xJ:=hid (fun w=>jD sch (.slice none 0 0) [] s w (.inl ⟨rfl,rfl⟩) (by simp) (by omega));have jB:Hid (qF J0 ⟨sch,us0,ps0,⟨k0,n0,f0,[y0,y1,y2,y3,y4,y5,y6,y7]⟩,XF,po0,oq,fl,path,hq,qu,hf0,fr⟩ s=if jN (dN true s).1=true then some {scheme:=sch,user:=us0,pass:=ps0,host:=⟨k0,n0,f0,[y0,y1,y2,y3,y4,y5,y6,y7]⟩,hasPort:=XF,port:=po0,opaq:=oq,flat:=fl,path:=J0.dU sch [] s,hasQuery:=hq,query:=qu,hasFrag:=hf0,frag:=fr}
  else if(dN true s).1=[] then some {scheme:=sch,user:=us0,pass:=ps0,host:=⟨k0,n0,f0,[y0,y1,y2,y3,y4,y5,y6,y7]⟩,hasPort:=XF,port:=po0,opaq:=oq,flat:=fl,path:=oQ J0 sch (dN true s).2,hasQuery:=hq,query:=qu,hasFrag:=hf0,frag:=fr}
  else match oW (dN true s).1 true with
  |none=>none
  |some h=>some {scheme:=sch,user:=us0,pass:=ps0,host:=if h.kind≠2∨h.name≠Ho then h else⟨k0,n0,f0,[y0,y1,y2,y3,y4,y5,y6,y7]⟩,hasPort:=XF,port:=po0,opaq:=oq,flat:=fl,path:=oQ J0 sch (dN true s).2,hasQuery:=hq,query:=qu,hasFrag:=hf0,frag:=fr}):=hid rfl
 generalize jN (dN true s).1=dr at*;generalize dN true s=z at*;obtain⟨hd,rest⟩:=z;simp only at HC HD HH HO HP jB;have HS:Hid (bL g w w):=hid (bL.refl _ _);have HLT:=hid hR.lt;simp only[dP,eY,List.map,List.cons_append,List.nil_append] at hR;have c0:=hR.cell (i:=0) rfl;clear hW h8 oO;cases dr;by_cases vO:hd=[];subst vO;have HF:=hid ((jB.out.trans (if_neg (by simp))).trans (if_pos rfl));have hz:((aA []).toList==[])=true:=by rw[ByteArray.toList_eq,aC];rfl
 have qL:(aA []).toList.isEmpty=true:=by rw[ByteArray.toList_eq,aC];rfl
 clear jB HO HH xJ;rw[HF.out];simp only[dP,eY,List.map,List.cons_append,List.nil_append];have tg:=Tg.k 1;rotate_left;have pJ:=hid ((jB.out.trans (if_neg (by simp))).trans (if_neg vO));have eG:=mN vO;have GF:((aA hd).toList==[])=false:=by rw[ByteArray.toList_eq,aC];exact beq_eq_false_iff_ne.mpr vO
 clear jB xJ vO;rcases ha:oW hd true with _|a;rw[ha] at HH pJ;have HF:=hid pJ.out;simp only at HF;simp only[iT,cL,eY,List.map,List.cons_append,List.nil_append] at HH;clear pJ ha HO HP;rw[HF.out];simp only[dP,eY,List.map,List.cons_append,List.nil_append];have tg:=Tg.k 2;rotate_left;have qK:=(HO a ha).six;obtain⟨hk,hn,hf,aoC⟩:=a;obtain⟨x0,x1,x2,x3,x4,x5,x6,x7,rfl⟩:=eight qK;rw[ha] at HH pJ;simp only at pJ;simp only[iT,cL,eY,List.map,List.cons_append,List.nil_append] at HH;clear ha HO qK;by_cases KP:hk=2;subst KP;by_cases hl:hn=Ho;subst hl;have HF:=hid pJ.out;rw[if_neg (by simp)] at HF;have bC:((aA Ho).toList==[108,111,99,97,108,104,111,115,116])=true:=by rw[ByteArray.toList_eq,aC];rfl
 clear pJ;rw[HF.out];simp only[dP,eY,List.map,List.cons_append,List.nil_append];have tg:=Tg.k 3;rotate_left;have HF:=hid pJ.out;rw[if_pos (.inr hl)] at HF;have hln:((aA hn).toList==[108,111,99,97,108,104,111,115,116])=false:=by rw[ByteArray.toList_eq,aC];exact beq_eq_false_iff_ne.mpr hl
 clear pJ hl;rw[HF.out];simp only[dP,eY,List.map,List.cons_append,List.nil_append];have tg:=Tg.k 4;rotate_left;have HF:=hid pJ.out;rw[if_pos (.inl KP)] at HF;have Ec:((hk:Int)==2)=false:=by simp;omega
 have aqO:((hk:Int)!=2)=true:=by simp;omega
 clear pJ KP;rw[HF.out];simp only[dP,eY,List.map,List.cons_append,List.nil_append];have tg:=Tg.k 5;rotate_left;have HF:=hid (jB.out.trans (if_pos rfl));clear jB HO HH HP;rw[HF.out];simp only[dP,eY,List.map,List.cons_append,List.nil_append];have tg:=Tg.k 0;all_goals
  go_enter Tryz.func134,Tryz.ntmps134;go_wp2_with fail;refine(HC.out _).mono ?_;rintro e w3 ⟨rfl,cF⟩;replace HS:=hid (HS.out.below cF (by have:=HLT.out;omega));replace hR:=hR.below cF;have HW3:=hid (HW.out.step cF);clear c0 cF;go_wp2_with fail;refine(HD.out _).mono ?_;rintro e w' ⟨rfl,rfl⟩;have c0:=hR.cell (i:=0) rfl;go_wp2_with fail;first
  |have:Tg 2:=tg;refine(HH.out _ HW3.out).mono ?_;rintro e w4 ⟨rfl,cG⟩;replace HS:=hid (HS.out.below cG (by have:=hR.lt;omega));replace hR:=hR.below cG;clear c0 cG;go_wp2_with (first|(refine eX rfl (mQ _) ?_;intro gX w2 Th hX;have l1:=hR.lt;have g0:=hX.out.1;have l2:=HS.out.1.size;have hgX:gX≠g:=(by omega);have hwX:g≤gX:=(by omega);have W2:w.heap.size≤gX:=(by omega);clear l1 l2 g0;replace HS:=hid (HS.out.below hX.out.2.1 (by have:=hR.lt;omega));replace hR:=hR.below hX.out.2.1;clear hX)|(refine lV rfl Th rfl (by kernel_rfl) ?_;intro w1 aH aB;replace hR:=hR.other aB (Ne.symm hgX);replace HS:=hid (HS.out.uP W2 hwX aB);replace Th:=aH;clear aB aH;have d0:=Th.cell (i:=0) rfl;have d1:=Th.cell (i:=1) rfl;have c0:=hR.cell (i:=0) rfl));exact⟨rfl,HS.out,rfl⟩
  |first
   |have:Tg 0:=tg;refine(xJ.out _).mono ?_
   |first
    |have:Tg 1:=tg
    |refine(HH.out _ HW3.out).mono ?_;rintro e w4 ⟨rfl,cG⟩;replace HS:=hid (HS.out.below cG (by have:=hR.lt;omega));replace hR:=hR.below cG;clear c0 cG;go_wp2_with (first|(refine eX rfl (mQ _) ?_;intro gX w2 Th hX;have l1:=hR.lt;have g0:=hX.out.1;have l2:=HS.out.1.size;have hgX:gX≠g:=(by omega);have hwX:g≤gX:=(by omega);have W2:w.heap.size≤gX:=(by omega);clear l1 l2 g0;replace HS:=hid (HS.out.below hX.out.2.1 (by have:=hR.lt;omega));replace hR:=hR.below hX.out.2.1;clear hX)|(refine lV rfl Th rfl (by kernel_rfl) ?_;intro w1 aH aB;replace hR:=hR.other aB (Ne.symm hgX);replace HS:=hid (HS.out.uP W2 hwX aB);replace Th:=aH;clear aB aH;have d0:=Th.cell (i:=0) rfl;have d1:=Th.cell (i:=1) rfl;have c0:=hR.cell (i:=0) rfl)|(refine fF rfl Th R32 rfl rfl ?_;clear d0 d1)|(refine eV rfl 32 _ _ rfl g 3 _ rfl rfl hR rfl (by kernel_rfl) (by kernel_rfl) ?_;intro w1 aH aB;replace HS:=hid (HS.out.trans (bL.of aB));replace hR:=aH;clear aB aH;simp[putAt,Act.eval] at hR;have c0:=hR.cell (i:=0) rfl))
    refine(HP.out _).mono ?_
   rintro e w5 ⟨v',rfl,h2,h3⟩;have hP:bP N w5 v' _:=bP.own h2 (fun x hx=>Nat.lt_of_lt_of_le (HNL.out x hx) HS.out.1.size);obtain⟨A,c,hv⟩:=hP.len;subst hv;replace HS:=hid (HS.out.below h3 (Nat.le_of_lt hR.lt));replace hR:=hR.below h3;have fW:=hid hP;clear h2 h3 hP c0;go_wp2_with (first|(refine oU 18 rfl hR rfl I22 ?_;intro w6 Lx P9;replace hR:=Lx;replace fW:=hid (fW.out.save (bL.of P9) HNG.out);replace HS:=hid (HS.out.trans (bL.of P9));clear Lx P9;simp[Act.eval] at hR));first
    |go_end0
    |refine bodyPost_ret (results_none rfl _ _ _) rfl ?_
   exact⟨HS.out,rfl,_,hR,fW.out⟩
end Go.Proofs.YtmgmclkplepapaaGreatDoor
