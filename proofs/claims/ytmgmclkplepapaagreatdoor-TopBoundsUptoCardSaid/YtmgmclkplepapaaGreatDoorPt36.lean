/- Part of the proof of TopBoundsUptoCardSaid. Conditions: none beyond the statement. -/
import Derived.Test.YtmgmclkplepapaaGreatDoorPt35
set_option linter.all false
set_option maxRecDepth 100000
set_option maxHeartbeats 64000000
namespace Go.Proofs.YtmgmclkplepapaaGreatDoor
open Go.RowKit
def Ab:Ending:= .panicked [{v:= .iface 170 (.agg #[]),recovered:=false}]
theorem bL.uP {g b:Nat} {w w' yT:World} (h:bL g w w') (hb:w.heap.size≤b) (hg:g≤b) (he:mZ b w' yT):bL g w yT:=
 ⟨h.1.trans (he.1.mono hg),fun k hk hl=>(he.2.2 k (by omega)).trans (h.2 k hk hl)⟩
theorem DY {sch us ps s:List UInt8} {a:AJ} (hs:s.length≤5000000) (h:dX J0 sch us ps s=some a):nO a.host:=by
 unfold dX at h;split at h;·cases h
 ·rename_i k hk;split at h;·cases h
  ·rename_i x hx;split at h;·cases h
   ·cases h;exact qW (by simp;omega) hx
 ·split at h;·cases h
  ·rename_i x hx;split at h;·cases h
   ·cases h;exact qW hs hx
theorem Lw {sch s:List UInt8} {a:AJ} (hs:s.length≤5000000) (h:fI J0 sch s=some a):nO a.host:=by
 unfold fI at h;split at h
 ·split at h;·cases h
  ·exact DY (by simp;omega) h
 ·exact DY hs h
theorem B2 (g:Nat) (pv:Value) (u:bD) (h8:u.host.six.length=8) (s:List UInt8) (hs:s.length≤5000000) (w:World) (hW:Laid w) (hg6:6≤g) (hR:Row w g 34 (dP pv u)) (N:Nat→Prop) (W1:N g) (UF:∀x,N x→x < w.heap.size) (mD:bP N w pv u.path):
 Calls Tryz.prog 97 #[.pointer (some ⟨g,0,none⟩),.string (aA s)] w fun e w'=>bL g w w'∧match tI J0 u s with
  |none=>e=Ab
  |some v=>e= .returned (.tuple #[])∧∃pv',Row w' g 34 (dP pv' v)∧bP N w' pv' v.path:=by
 have HW:=hid hW;have F8:=hid mD;have HNG:=hid W1;have HNL:=hid UF;clear W1 UF;obtain⟨sch,us0,ps0,⟨k0,n0,f0,aoB⟩,XF,po0,oq,fl,path,hq,qu,hf0,fr⟩:=u;simp only at h8 F8;obtain⟨y0,y1,y2,y3,y4,y5,y6,y7,rfl⟩:=eight h8;have CO:=hid (fun W=>jS (aA sch) W);have HC:=hid (fun W=>Pj s (aV (aA sch)) (by omega) W);have oO:(dN (aV (aA sch)) s).1.length≤s.length∧(dN (aV (aA sch)) s).2.length≤s.length:=by have h1:=(List.takeWhile_sublist (l:=s) fun c=> !fR (aV (aA sch)) c).length_le;have h2:=bW (fun c=> !fR (aV (aA sch)) c) s;exact⟨h1,h2⟩
 have HA:=hid (fun W hW=>Tb sch (dN (aV (aA sch)) s).1 (by omega) W hW);have HO:=fun a=> @Lw sch (dN (aV (aA sch)) s).1 a (by omega);have HP:=hid (fun W=>DX sch (dN (aV (aA sch)) s).2 (by omega) W);have jB:Hid (tI J0 ⟨sch,us0,ps0,⟨k0,n0,f0,[y0,y1,y2,y3,y4,y5,y6,y7]⟩,XF,po0,oq,fl,path,hq,qu,hf0,fr⟩ s=match fI J0 sch (dN (aV (aA sch)) s).1 with
  |none=>none
  |some a=>some {scheme:=sch,user:=a.user,pass:=a.pass,host:=a.host,hasPort:=a.hasPort,port:=a.port,opaq:=oq,flat:=fl,path:=if aV (aA sch)=true∨(dN (aV (aA sch)) s).2≠[] then oQ J0 sch (dN (aV (aA sch)) s).2 else path,hasQuery:=hq,query:=qu,hasFrag:=hf0,frag:=fr}):=hid rfl
 generalize aV (aA sch)=sp at*;generalize dN sp s=z at*;obtain⟨hd,rest⟩:=z;simp only at HC HA HO HP jB;have HS:Hid (bL g w w):=hid (bL.refl _ _);have HLT:=hid hR.lt;simp only[dP,eY,List.map,List.cons_append,List.nil_append] at hR;have c0:=hR.cell (i:=0) rfl;clear hW mD h8 oO;rcases ha:fI J0 sch hd with _|a;rw[ha] at HA jB;have HF:=hid (show tI J0 ⟨sch,us0,ps0,⟨k0,n0,f0,[y0,y1,y2,y3,y4,y5,y6,y7]⟩,XF,po0,oq,fl,path,hq,qu,hf0,fr⟩ s=none from jB.out);rw[HF.out];simp only[Bz,wO,cL,eY,List.map,List.cons_append,List.nil_append] at HA;clear jB ha HO HP;have tg:=Tg.k 0;rotate_left;have qK:=(HO a ha).six;obtain⟨us,ps,⟨hk,hn,hf,aoC⟩,hp,po⟩:=a;obtain⟨x0,x1,x2,x3,x4,x5,x6,x7,rfl⟩:=eight qK;rw[ha] at HA jB;simp only at jB;simp only[Bz,wO,eY,List.map,List.cons_append,List.nil_append] at HA;clear ha HO qK;have dO:(sp=true∨(sp=false∧rest≠[]))∨(sp=false∧rest=[]):=by
  cases sp
  ·by_cases h:rest=[];·exact .inr ⟨rfl,h⟩
   ·exact .inl (.inr ⟨rfl,h⟩)
  ·exact .inl (.inl rfl)
 rcases dO with(rfl|⟨rfl,adS⟩)|⟨rfl,rfl⟩;have HF:=hid (jB.out.trans (by rw[if_pos (.inl rfl)]));rw[HF.out];simp only[dP,eY,List.map,List.cons_append,List.nil_append];clear jB;have tg:=Tg.k 1;rotate_left;have HF:=hid (jB.out.trans (by rw[if_pos (.inr adS)]));have eG:=mN adS;have GF:((aA rest).toList==[])=false:=by rw[ByteArray.toList_eq,aC];exact beq_eq_false_iff_ne.mpr adS
 clear adS;rw[HF.out];simp only[dP,eY,List.map,List.cons_append,List.nil_append];clear jB;have tg:=Tg.k 2;rotate_left;have HF:=hid (jB.out.trans (by rw[if_neg (by simp)]));have hz:((aA []).toList==[])=true:=by rw[ByteArray.toList_eq,aC];rfl
 have qL:(aA []).toList.isEmpty=true:=by rw[ByteArray.toList_eq,aC];rfl
 rw[HF.out];simp only[dP,eY,List.map,List.cons_append,List.nil_append];clear jB;have tg:=Tg.k 3;all_goals
  go_enter Tryz.func97,Tryz.ntmps97;go_wp2_with fail;refine(CO.out _).mono ?_;rintro e w' ⟨rfl,rfl⟩;go_wp2_with fail;refine(HC.out _).mono ?_;rintro e w3 ⟨rfl,cF⟩;replace HS:=hid (HS.out.below cF (by have:=HLT.out;omega));replace hR:=hR.below cF;have HW3:=hid (HW.out.step cF);clear c0 cF;have c0:=hR.cell (i:=0) rfl;go_wp2_with fail;refine(HA.out _ HW3.out).mono ?_;rintro e w4 ⟨rfl,cG⟩;replace HS:=hid (HS.out.below cG (by have:=hR.lt;omega));replace hR:=hR.below cG;clear c0 cG;go_wp2_with (first|(refine eX rfl (vK _) ?_;intro gX w2 Th hX;have l1:=hR.lt;have g0:=hX.out.1;have l2:=HS.out.1.size;have hgX:gX≠g:=(by omega);have hwX:g≤gX:=(by omega);have W2:w.heap.size≤gX:=(by omega);clear l1 l2 g0;replace HS:=hid (HS.out.below hX.out.2.1 (by have:=hR.lt;omega));replace hR:=hR.below hX.out.2.1;clear hX)|(refine lV rfl Th rfl (by kernel_rfl) ?_;intro w1 aH aB;replace hR:=hR.other aB (Ne.symm hgX);replace HS:=hid (HS.out.uP W2 hwX aB);replace Th:=aH;clear aB aH));first
  |have:Tg 0:=tg;exact⟨rfl,HS.out,rfl⟩
  |have hW1:bL g w w1.drew:=HS.out.below (bB w1) (Nat.le_of_lt hR.lt);have rO:Hid (gX≠g):=hid hgX;have HI0:Hid (bL g w w1.drew∧Row w1.drew gX 166 #[.string (aA us),.string (aA ps),.int .i64 (hk:Int),.string (aA hn),.int .u32 (hf:Int),.int .u16 (x0:Int),.int .u16 (x1:Int),.int .u16 (x2:Int),.int .u16 (x3:Int),.int .u16 (x4:Int),.int .u16 (x5:Int),.int .u16 (x6:Int),.int .u16 (x7:Int),.bool hp,.int .i64 (po:Int)]∧Row w1.drew g 34 (Lu (.string (aA sch)) (.string (aA us0)) (.string (aA ps0)) (.int .i64 (k0:Int)) (.string (aA n0)) (.int .u32 (f0:Int)) (.int .u16 (y0:Int)) (.int .u16 (y1:Int)) (.int .u16 (y2:Int)) (.int .u16 (y3:Int)) (.int .u16 (y4:Int)) (.int .u16 (y5:Int)) (.int .u16 (y6:Int)) (.int .u16 (y7:Int)) (.bool XF) (.int .i64 (po0:Int)) (.bool oq) (.string (aA fl)) pv (.bool hq) (.string (aA qu)) (.bool hf0) (.string (aA fr)) (.string (aA us)) (.string (aA ps)) (.int .i64 (hk:Int)) (.string (aA hn)) (.int .u32 (hf:Int)) (.int .u16 (x0:Int)) (.int .u16 (x1:Int)) (.int .u16 (x2:Int)) (.int .u16 (x3:Int)) (.int .u16 (x4:Int)) (.int .u16 (x5:Int)) (.int .u16 (x6:Int)) (.int .u16 (x7:Int)) (.bool hp) (.int .i64 (po:Int)) false false false false false)):=hid ⟨hW1,Th,hR⟩;clear hW1 Th hR HS hgX hwX W2;apply BT (fun L W=>bL g w W∧Row W gX 166 #[.string (aA us),.string (aA ps),.int .i64 (hk:Int),.string (aA hn),.int .u32 (hf:Int),.int .u16 (x0:Int),.int .u16 (x1:Int),.int .u16 (x2:Int),.int .u16 (x3:Int),.int .u16 (x4:Int),.int .u16 (x5:Int),.int .u16 (x6:Int),.int .u16 (x7:Int),.bool hp,.int .i64 (po:Int)]∧Row W g 34 (Lu (.string (aA sch)) (.string (aA us0)) (.string (aA ps0)) (.int .i64 (k0:Int)) (.string (aA n0)) (.int .u32 (f0:Int)) (.int .u16 (y0:Int)) (.int .u16 (y1:Int)) (.int .u16 (y2:Int)) (.int .u16 (y3:Int)) (.int .u16 (y4:Int)) (.int .u16 (y5:Int)) (.int .u16 (y6:Int)) (.int .u16 (y7:Int)) (.bool XF) (.int .i64 (po0:Int)) (.bool oq) (.string (aA fl)) pv (.bool hq) (.string (aA qu)) (.bool hf0) (.string (aA fr)) (.string (aA us)) (.string (aA ps)) (.int .i64 (hk:Int)) (.string (aA hn)) (.int .u32 (hf:Int)) (.int .u16 (x0:Int)) (.int .u16 (x1:Int)) (.int .u16 (x2:Int)) (.int .u16 (x3:Int)) (.int .u16 (x4:Int)) (.int .u16 (x5:Int)) (.int .u16 (x6:Int)) (.int .u16 (x7:Int)) (.bool hp) (.int .i64 (po:Int)) (L 17) (L 20) (L 23) (L 26) (L 29))) rfl (by kernel_rfl) HI0.out;simp only[];repeat (first
    |(apply iX.step; ·rfl
      ·intro L W hI hl K hK;refine kO 9 _ _ rfl g 1 (.string (aA us)) rfl rfl rfl hI.2.2 rfl (by kernel_rfl) fun w' hr he=>hK w' ⟨hI.1.trans (bL.of he),hI.2.1.other he rO.out,by rw[kN,aU L (show(20:Nat)≠17 by decide),aU L (show(23:Nat)≠17 by decide),aU L (show(26:Nat)≠17 by decide),aU L (show(29:Nat)≠17 by decide)];exact hr⟩
      simp only[pq])
    |(apply iX.step; ·rfl
      ·intro L W hI hl K hK;refine kO 9 _ _ rfl g 2 (.string (aA ps)) rfl rfl rfl hI.2.2 rfl (by kernel_rfl) fun w' hr he=>hK w' ⟨hI.1.trans (bL.of he),hI.2.1.other he rO.out,by rw[kN,aU L (show(17:Nat)≠20 by decide),aU L (show(23:Nat)≠20 by decide),aU L (show(26:Nat)≠20 by decide),aU L (show(29:Nat)≠20 by decide)];exact hr⟩
      simp only[pq])
    |(apply iX.step; ·rfl
      ·intro L W hI hl K hK;refine Lv 32 _ _ rfl g 3 #[.int .i64 (hk:Int),.string (aA hn),.int .u32 (hf:Int),.int .u16 (x0:Int),.int .u16 (x1:Int),.int .u16 (x2:Int),.int .u16 (x3:Int),.int .u16 (x4:Int),.int .u16 (x5:Int),.int .u16 (x6:Int),.int .u16 (x7:Int)] rfl rfl hI.2.2 rfl (by kernel_rfl) (by kernel_rfl) fun w' hr he=>hK w' ⟨hI.1.trans (bL.of he),hI.2.1.other he rO.out,by rw[kN,aU L (show(17:Nat)≠23 by decide),aU L (show(20:Nat)≠23 by decide),aU L (show(26:Nat)≠23 by decide),aU L (show(29:Nat)≠23 by decide)];exact hr⟩
      simp only[pq])
    |(apply iX.step; ·rfl
      ·intro L W hI hl K hK;refine kO 4 _ _ rfl g 14 (.bool hp) rfl rfl rfl hI.2.2 rfl (by kernel_rfl) fun w' hr he=>hK w' ⟨hI.1.trans (bL.of he),hI.2.1.other he rO.out,by rw[kN,aU L (show(17:Nat)≠26 by decide),aU L (show(20:Nat)≠26 by decide),aU L (show(23:Nat)≠26 by decide),aU L (show(29:Nat)≠26 by decide)];exact hr⟩
      simp only[pq])
    |(apply iX.step; ·rfl
      ·intro L W hI hl K hK;refine kO 3 _ _ rfl g 15 (.int .i64 (po:Int)) rfl rfl rfl hI.2.2 rfl (by kernel_rfl) fun w' hr he=>hK w' ⟨hI.1.trans (bL.of he),hI.2.1.other he rO.out,by rw[kN,aU L (show(17:Nat)≠29 by decide),aU L (show(20:Nat)≠29 by decide),aU L (show(23:Nat)≠29 by decide),aU L (show(26:Nat)≠29 by decide)];exact hr⟩
      simp only[pq])
    |(apply iX.step; ·rfl
      ·intro L W hI hl K hK;refine BB 32 _ rfl gX 2 rfl hI.2.1 [.int .i64 (hk:Int),.string (aA hn),.int .u32 (hf:Int),.int .u16 (x0:Int),.int .u16 (x1:Int),.int .u16 (x2:Int),.int .u16 (x3:Int),.int .u16 (x4:Int),.int .u16 (x5:Int),.int .u16 (x6:Int),.int .u16 (x7:Int)] rfl _ Tryz.underlying32 rfl (by kernel_rfl) (hK W ⟨hI.1,hI.2.1,UI (st:=(17,20,23,26,29)) (by decide) hI.2.2⟩)
      simp only[pq])
    |(apply iX.step; ·rfl
      ·intro L W hI hl K hK;have c0:=hI.2.1.cell (i:=0) rfl;have c1:=hI.2.1.cell (i:=1) rfl;have c13:=hI.2.1.cell (i:=13) rfl;have c14:=hI.2.1.cell (i:=14) rfl;go_simp;exact hK W ⟨hI.1,hI.2.1,UI (st:=(17,20,23,26,29)) (by decide) hI.2.2⟩
      simp only[pq]))
   refine iX.nil ?_;intro L W iK hI;have pG:=hI.2.2;rw[iK 17 (by decide),iK 20 (by decide),iK 23 (by decide),iK 26 (by decide),iK 29 (by decide)] at pG;simp only[Lu,cond_true] at pG;have Cv:=hI.1;clear hI iK;have c0:=pG.cell (i:=0) rfl;go_wp2_with fail;first
   |have:Tg 3:=tg
    go_end0
    exact⟨Cv,rfl,_,pG,F8.out.save Cv HNG.out⟩
   |refine(HP.out _).mono ?_;rintro e w5 ⟨v',rfl,h2,h3⟩;have hP:bP N w5 v' _:=bP.own h2 (fun x hx=>Nat.lt_of_lt_of_le (HNL.out x hx) Cv.1.size);obtain⟨A,c,hv⟩:=hP.len;subst hv;have ZW:=Cv.below h3 (Nat.le_of_lt pG.lt);replace pG:=pG.below h3;have fW:=hid hP;have HS5:=hid ZW;clear h2 h3 hP Cv ZW c0;go_wp2_with (refine oU _ rfl pG rfl (by kernel_rfl) ?_;intro w6 Lx P9;replace pG:=Lx;have HP6:=hid (fW.out.save (bL.of P9) HNG.out);have HS6:=hid (HS5.out.trans (bL.of P9));clear Lx P9;simp[Act.eval] at pG)
    go_end0
    exact⟨HS6.out,rfl,_,pG,HP6.out⟩
end Go.Proofs.YtmgmclkplepapaaGreatDoor
