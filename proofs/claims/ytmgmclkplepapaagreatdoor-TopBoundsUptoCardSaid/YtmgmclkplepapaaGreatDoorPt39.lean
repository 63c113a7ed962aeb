/- Part of the proof of TopBoundsUptoCardSaid. Conditions: none beyond the statement. -/
import Derived.Test.YtmgmclkplepapaaGreatDoorPt38
set_option linter.all false
set_option maxRecDepth 100000
set_option maxHeartbeats 64000000
namespace Go.Proofs.YtmgmclkplepapaaGreatDoor
open Go.RowKit
theorem adX (s:List UInt8) (w:World):Calls Tryz.prog 175 #[.string (aA s)] w fun e w'=>e= .returned (.bool (jM s))∧w=w':=by have h:=sT (aA s) w;rwa[aC] at h
theorem Qg (g:Nat) (pv:Value) (u:bD) (h8:u.host.six.length=8) (s:List UInt8) (hs:s.length≤5000000) (w:World) (hW:Laid w) (hR:Row w g 34 (dP pv u)) (N:Nat→Prop) (W0:N g) (UE:∀x,N x→x < w.heap.size):
 Calls Tryz.prog 134 #[.pointer (some ⟨g,0,none⟩),.string (aA s)] w fun e w'=>bL g w w'∧match qE J0 u s with
  |none=>e=Aa
  |some v=>e= .returned (.tuple #[])∧∃pv',Row w' g 34 (dP pv' v)∧bP N w' pv' v.path:=by
 have HW:=hid hW;have HNG:=hid W0;have HNL:=hid UE;clear W0 UE;obtain⟨sch,us0,ps0,⟨k0,n0,f0,aoA⟩,XE,po0,oq,fl,path,hq,qu,hf0,fr⟩:=u;simp only at h8;obtain⟨y0,y1,y2,y3,y4,y5,y6,y7,rfl⟩:=eight h8;have HC:=hid (fun W=>Ph s true (by omega) W);have oN:(dN true s).1.length≤s.length∧(dN true s).2.length≤s.length:=by have h1:=(List.takeWhile_sublist (l:=s) fun c=> !fR true c).length_le;have h2:=bW (fun c=> !fR true c) s;exact⟨h1,h2⟩
 have HD:=hid (fun W=>adX (dN true s).1 W);have HH:=hid (fun W hW=>mR (dN true s).1 true (by omega) W hW);have HO:=fun a=> @qV (dN true s).1 true a (by omega);have HP:=hid (fun W=>DW sch (dN true s).2 (by omega) W);have xI:=hid (fun w=>jC sch (.slice none 0 0) [] s w (.inl ⟨rfl,rfl⟩) (by simp) (by omega));have jA:Hid (qE J0 ⟨sch,us0,ps0,⟨k0,n0,f0,[y0,y1,y2,y3,y4,y5,y6,y7]⟩,XE,po0,oq,fl,path,hq,qu,hf0,fr⟩ s=if jM (dN true s).1=true then some {scheme:=sch,user:=us0,pass:=ps0,host:=⟨k0,n0,f0,[y0,y1,y2,y3,y4,y5,y6,y7]⟩,hasPort:=XE,port:=po0,opaq:=oq,flat:=fl,path:=J0.dU sch [] s,hasQuery:=hq,query:=qu,hasFrag:=hf0,frag:=fr}
  else if(dN true s).1=[] then some {scheme:=sch,user:=us0,pass:=ps0,host:=⟨k0,n0,f0,[y0,y1,y2,y3,y4,y5,y6,y7]⟩,hasPort:=XE,port:=po0,opaq:=oq,flat:=fl,path:=oP J0 sch (dN true s).2,hasQuery:=hq,query:=qu,hasFrag:=hf0,frag:=fr}
  else match oV (dN true s).1 true with
  |none=>none
  |some h=>some {scheme:=sch,user:=us0,pass:=ps0,host:=if h.kind≠2∨h.name≠Hm then h else⟨k0,n0,f0,[y0,y1,y2,y3,y4,y5,y6,y7]⟩,hasPort:=XE,port:=po0,opaq:=oq,flat:=fl,path:=oP J0 sch (dN true s).2,hasQuery:=hq,query:=qu,hasFrag:=hf0,frag:=fr}):=hid rfl
 generalize jM (dN true s).1=dr at*;generalize dN true s=z at*;obtain⟨hd,rest⟩:=z;simp only at HC HD HH HO HP jA;have HS:Hid (bL g w w):=hid (bL.refl _ _);have HLT:=hid hR.lt;simp only[dP,eY,List.map,List.cons_append,List.nil_append] at hR;have c0:=hR.cell (i:=0) rfl;clear hW h8 oN;cases dr;by_cases vN:hd=[];subst vN;have HF:=hid ((jA.out.trans (if_neg (by simp))).trans (if_pos rfl));have hz:((aA []).toList==[])=true:=by rw[ByteArray.toList_eq,aC];rfl
 have qK:(aA []).toList.isEmpty=true:=by rw[ByteArray.toList_eq,aC];rfl
 clear jA HO HH xI;rw[HF.out];simp only[dP,eY,List.map,List.cons_append,List.nil_append];have tg:=Tg.k 1;rotate_left;have pI:=hid ((jA.out.trans (if_neg (by simp))).trans (if_neg vN));have eG:=mM vN;have GD:((aA hd).toList==[])=false:=by rw[ByteArray.toList_eq,aC];exact beq_eq_false_iff_ne.mpr vN
 clear jA xI vN;rcases ha:oV hd true with _|a;rw[ha] at HH pI;have HF:=hid pI.out;simp only at HF;simp only[iS,cL,eY,List.map,List.cons_append,List.nil_append] at HH;clear pI ha HO HP;rw[HF.out];simp only[dP,eY,List.map,List.cons_append,List.nil_append];have tg:=Tg.k 2;rotate_left;have qJ:=(HO a ha).six;obtain⟨hk,hn,hf,aoB⟩:=a;obtain⟨x0,x1,x2,x3,x4,x5,x6,x7,rfl⟩:=eight qJ;rw[ha] at HH pI;simp only at pI;simp only[iS,cL,eY,List.map,List.cons_append,List.nil_append] at HH;clear ha HO qJ;by_cases KO:hk=2;subst KO;by_cases hl:hn=Hm;subst hl;have HF:=hid pI.out;rw[if_neg (by simp)] at HF;have bC:((aA Hm).toList==[108,111,99,97,108,104,111,115,116])=true:=by rw[ByteArray.toList_eq,aC];rfl
 clear pI;rw[HF.out];simp only[dP,eY,List.map,List.cons_append,List.nil_append];have tg:=Tg.k 3;rotate_left;have HF:=hid pI.out;rw[if_pos (.inr hl)] at HF;have hln:((aA hn).toList==[108,111,99,97,108,104,111,115,116])=false:=by rw[ByteArray.toList_eq,aC];exact beq_eq_false_iff_ne.mpr hl
 clear pI hl;rw[HF.out];simp only[dP,eY,List.map,List.cons_append,List.nil_append];have tg:=Tg.k 4;rotate_left;have HF:=hid pI.out;rw[if_pos (.inl KO)] at HF;have Eb:((hk:Int)==2)=false:=by simp;omega
 have aqN:((hk:Int)!=2)=true:=by simp;omega
 clear pI KO;rw[HF.out];simp only[dP,eY,List.map,List.cons_append,List.nil_append];have tg:=Tg.k 5;rotate_left;have HF:=hid (jA.out.trans (if_pos rfl));clear jA HO HH HP;rw[HF.out];simp only[dP,eY,List.map,List.cons_append,List.nil_append];have tg:=Tg.k 0;all_goals
  go_enter Tryz.func134,Tryz.ntmps134;go_wp2_with fail;refine(HC.out _).mono ?_;rintro e w3 ⟨rfl,cF⟩;replace HS:=hid (HS.out.below cF (by have:=HLT.out;omega));replace hR:=hR.below cF;have HW3:=hid (HW.out.step cF);clear c0 cF;go_wp2_with fail;refine(HD.out _).mono ?_;rintro e w' ⟨rfl,rfl⟩;have c0:=hR.cell (i:=0) rfl;go_wp2_with fail;first
  |have:Tg 2:=tg;refine(HH.out _ HW3.out).mono ?_;rintro e w4 ⟨rfl,cG⟩;replace HS:=hid (HS.out.below cG (by have:=hR.lt;omega));replace hR:=hR.below cG;clear c0 cG;go_wp2_with (first|(refine eX rfl (mP _) ?_;intro gX w2 Tf hX;have l1:=hR.lt;have g0:=hX.out.1;have l2:=HS.out.1.size;have hgX:gX≠g:=(by omega);have hwX:g≤gX:=(by omega);have W1:w.heap.size≤gX:=(by omega);clear l1 l2 g0;replace HS:=hid (HS.out.below hX.out.2.1 (by have:=hR.lt;omega));replace hR:=hR.below hX.out.2.1;clear hX)|(refine lU rfl Tf rfl (by kernel_rfl) ?_;intro w1 aH aB;replace hR:=hR.other aB (Ne.symm hgX);replace HS:=hid (HS.out.uO W1 hwX aB);replace Tf:=aH;clear aB aH;have d0:=Tf.cell (i:=0) rfl;have d1:=Tf.cell (i:=1) rfl;have c0:=hR.cell (i:=0) rfl));exact⟨rfl,HS.out,rfl⟩
  |first
   |have:Tg 0:=tg;refine(xI.out _).mono ?_
   |first
    |have:Tg 1:=tg
    |refine(HH.out _ HW3.out).mono ?_;rintro e w4 ⟨rfl,cG⟩;replace HS:=hid (HS.out.below cG (by have:=hR.lt;omega));replace hR:=hR.below cG;clear c0 cG;go_wp2_with (first|(refine eX rfl (mP _) ?_;intro gX w2 Tf hX;have l1:=hR.lt;have g0:=hX.out.1;have l2:=HS.out.1.size;have hgX:gX≠g:=(by omega);have hwX:g≤gX:=(by omega);have W1:w.heap.size≤gX:=(by omega);clear l1 l2 g0;replace HS:=hid (HS.out.below hX.out.2.1 (by have:=hR.lt;omega));replace hR:=hR.below hX.out.2.1;clear hX)|(refine lU rfl Tf rfl (by kernel_rfl) ?_;intro w1 aH aB;replace hR:=hR.other aB (Ne.symm hgX);replace HS:=hid (HS.out.uO W1 hwX aB);replace Tf:=aH;clear aB aH;have d0:=Tf.cell (i:=0) rfl;have d1:=Tf.cell (i:=1) rfl;have c0:=hR.cell (i:=0) rfl)|(refine fF rfl Tf R32 rfl rfl ?_;clear d0 d1)|(refine eV rfl 32 _ _ rfl g 3 _ rfl rfl hR rfl (by kernel_rfl) (by kernel_rfl) ?_;intro w1 aH aB;replace HS:=hid (HS.out.trans (bL.of aB));replace hR:=aH;clear aB aH;simp[putAt,Act.eval] at hR;have c0:=hR.cell (i:=0) rfl))
    refine(HP.out _).mono ?_
   rintro e w5 ⟨v',rfl,h2,h3⟩;have hP:bP N w5 v' _:=bP.own h2 (fun x hx=>Nat.lt_of_lt_of_le (HNL.out x hx) HS.out.1.size);obtain⟨A,c,hv⟩:=hP.len;subst hv;replace HS:=hid (HS.out.below h3 (Nat.le_of_lt hR.lt));replace hR:=hR.below h3;have fW:=hid hP;clear h2 h3 hP c0;go_wp2_with (first|(refine oT 18 rfl hR rfl I22 ?_;intro w6 Lw P8;replace hR:=Lw;replace fW:=hid (fW.out.save (bL.of P8) HNG.out);replace HS:=hid (HS.out.trans (bL.of P8));clear Lw P8;simp[Act.eval] at hR));first
    |go_end0
    |refine bodyPost_ret (results_none rfl _ _ _) rfl ?_
   exact⟨HS.out,rfl,_,hR,fW.out⟩
end Go.Proofs.YtmgmclkplepapaaGreatDoor
