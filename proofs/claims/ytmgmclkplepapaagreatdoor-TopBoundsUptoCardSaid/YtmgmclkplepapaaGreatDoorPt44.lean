/- Part of the proof of TopBoundsUptoCardSaid. Conditions: none beyond the statement. -/
import Derived.Test.YtmgmclkplepapaaGreatDoorPt42
set_option linter.all false
set_option maxRecDepth 100000
set_option maxHeartbeats 64000000
namespace Go.Proofs.YtmgmclkplepapaaGreatDoor
open Go.RowKit
def nO (d:List UInt8) (b:Bool) (u:List UInt8):Array Value:= #[.string (aA d),.bool b,.string (aA u)]
def aoH (o:Option NR) (w:World) (e:Ending) (w':World):Prop:=Below w.heap.size w w'∧e= .returned (.tuple #[.agg (match o with
 |some r=>nO r.xS r.CE r.url
 |none=>nO [] false []),.bool o.isSome])
theorem yN (w:World) (uX:Value):(Instr.alloc 86 true uX).run Tryz.prog w= .ok (.pointer (some ⟨w.heap.size,0,none⟩)) (w.alloc (.cells (nO [] false []) 86)):=by kernel_rfl
theorem qY (d:List UInt8) (b:Bool) (u:List UInt8):BC 3 (nO d b u):=⟨rfl,by kernel_rfl⟩
theorem Jy (w:World):(Instr.build 86 #[]).run Tryz.prog w= .ok (.agg (nO [] false [])) w:=by kernel_rfl
theorem TA (d:List UInt8) (w:World):(Instr.build 86 #[(0,.string (aA d))]).run Tryz.prog w= .ok (.agg (nO d false [])) w:=by kernel_rfl
def GV (c:UInt8):Bool:=c==46||kK c
theorem TB (s:List UInt8):oA s=if(s.dropWhile aI).takeWhile kK=[]∧(s.dropWhile aI).head?≠some 46 then none else pQ (Ev ((s.dropWhile aI).takeWhile kK)) (((s.dropWhile aI).dropWhile kK).dropWhile GV):=rfl
theorem Xd (d:List UInt8) (c:UInt8) (t:List UInt8):pQ d (c::t)=if(!aI c&&(c !=59&&c !=44))=true then none else
 if lO ((c::t).dropWhile aI)=[] then some ⟨d,false,[]⟩ else some ⟨d,true,nD (nZ (lO ((c::t).dropWhile aI)))⟩:=by
 rw[pQ];congr 1;rw[Bool.and_assoc]
theorem No (c:UInt8):decide ((0:Int)≤vP (nI c 10))=kK c:=by
 have:=Uu c;cases h:kK c with
 |true=>rw[h] at this;simp at this;simpa using this
 |false=>rw[h] at this;simp at this;simp;omega
theorem Ge (s:List UInt8) (q:UInt8):([q]:List UInt8).isPrefixOf s=decide (s.head? =some q):=by
 cases s with
 |nil=>rfl
 |cons a r=>simp[List.isPrefixOf];rw[Bool.eq_iff_iff];simp;exact eq_comm
theorem TC:∀b1 b2 b3 c:Bool,c=(!b1&&(b2&&b3))→(b1=true∧c=false)∨(b1=false∧b2=false∧c=false)∨(b1=false∧b2=true∧c=b3):=by decide
set_option maxRecDepth 1000000 in
theorem xE (s:List UInt8) (hs:s.length≤100000000) (w:World) (hW:Laid w):Calls Tryz.prog 44 #[.string (aA s)] w fun e w'=>aoH (oA s) w e w':=by
 have HW:=hid hW;have HR:=hid (TB s);have jO:=hid (fun W=>lX s (by omega) W);have HS1:(s.dropWhile aI).length≤100000000:=Nat.le_trans (bW aI s) hs;generalize oA s=R at*;generalize s.dropWhile aI=x at*;have HZ:=hid (aD x);have HB:Hid (Below w.heap.size w w):=hid (Below.refl _ _);have HDG:=hid (fun(c:UInt8) W=>mG c 10 (by decide) (by decide) 10 rfl W);have LB:=hid (fun W=>jT x [46] W);rw[Ge] at LB;clear hW hs;go_enter Tryz.func44,Tryz.ntmps44;go_wp2_with (first|(refine eX rfl (yN _) ?_;intro g2 w2 rE hN;have l2:=jU HB hN;replace HB:=aR HB hN.out.2.1;clear hN));refine(jO.out _).mono ?_;rintro e w9 ⟨rfl,rfl⟩;go_wp2_with fail;go_loopg [4] (x.length) (fun gk i wr=>∃k:Nat,gk=x.length - k∧i= .int .i64 (k:Int)∧k≤x.length∧Hid (x.dropWhile kK=(x.drop k).dropWhile kK)∧Hid ((x.drop 0).takeWhile kK=(x.drop 0).take (k - 0)++(x.drop k).takeWhile kK)∧w2=wr);case atStart=>exact⟨0,rfl,rfl,Nat.zero_le _,hid rfl,hid (by simp),rfl⟩
 case round=>
  obtain⟨k,rfl,rfl,mD,HF,HG,rfl⟩:=hrel;have ME:k≤(aA x).size:=by rw[HZ.out];exact mD
  obtain⟨cb,dO⟩:∃cb:Bool,(cb=true∧∃c,x.drop k=c::x.drop (k+1)∧k < x.length∧kK c=true∧∀h:k < (aA x).size,(aA x)[k]'h=c)∨(cb=false∧(x.drop k).takeWhile kK=[]∧(x.drop k).dropWhile kK=x.drop k∧(x.length≤k∨∃c,k < x.length∧kK c=false∧∀h:k < (aA x).size,(aA x)[k]'h=c)):=by
   by_cases bC:k < x.length
   ·obtain⟨c,hd,hg⟩:=iM bC;cases hc:kK c with
    |true=>exact⟨true,.inl ⟨rfl,c,hd,bC,hc,hg⟩⟩
    |false=>exact⟨false,.inr ⟨rfl,by rw[hd];exact List.takeWhile_cons_of_neg (by simp[hc]),by rw[hd];exact List.dropWhile_cons_of_neg (by simp[hc]),.inr ⟨c,bC,hc,hg⟩⟩⟩
   ·exact⟨false,.inr ⟨rfl,by rw[List.drop_of_length_le (by omega)];rfl,by rw[List.drop_of_length_le (by omega)];rfl,.inl (by omega)⟩⟩
  have HC:=hid dO;clear dO;go_upto_region 3 with fail
  go_cut [18] (fun v wc=>v= .bool cb∧w2=wc);case first=>
   rcases HC.out with⟨rfl,c,hd,bC,hc,hg⟩|⟨rfl,_,_,An|⟨c,bC,hc,hg⟩⟩
   ·have jY:k < (aA x).size:=by rw[HZ.out];exact bC
    have tL:=hg jY;have iE:c.toNat < 256:=c.toNat_lt;have HDC:=hid (HDG.out c);have An:=No c;rw[hc] at An;generalize vP (nI c 10)=dg at*;clear hg hc HF HG;go_wp2_with fail;refine(HDC.out _).mono ?_;rintro e w9 ⟨rfl,rfl⟩;go_wp2_with fail
    go_meet
    case rel=>exact⟨rfl,rfl⟩
   ·have alN:(aA x).size≤k:=by rw[HZ.out];exact An
    clear An HF HG;go_wp2_with fail
    go_meet
    case rel=>exact⟨rfl,rfl⟩
   ·have jY:k < (aA x).size:=by rw[HZ.out];exact bC
    have tL:=hg jY;have iE:c.toNat < 256:=c.toNat_lt;have HDC:=hid (HDG.out c);have An:=No c;rw[hc] at An;generalize vP (nI c 10)=dg at*;clear hg hc HF HG;go_wp2_with fail;refine(HDC.out _).mono ?_;rintro e w9 ⟨rfl,rfl⟩;go_wp2_with fail
    go_meet
    case rel=>exact⟨rfl,rfl⟩
  case rest=>
   obtain⟨rfl,rfl⟩:=hcut;rcases HC.out with⟨rfl,c,hd,bC,hc,hg⟩|⟨rfl,ht0,NC,_⟩
   ·have HN1:Hid (x.dropWhile kK=(x.drop (k+1)).dropWhile kK):=hid (by rw[HF.out,hd,List.dropWhile_cons_of_pos hc]);have HN2:=hid (BX (Nat.zero_le k) bC hd hc HG.out);clear hd hg hc HF HG HC;go_wp2_with fail;go_roundg (x.length - (k+1));case measure=>omega
    case rel=>exact⟨k+1,rfl,by go_num,by omega,HN1,HN2,by first|trivial|rfl⟩
   ·have hF:x.dropWhile kK=x.drop k:=HF.out.trans NC;have hG:x.takeWhile kK=x.take k:=by have:=HG.out;rw[ht0,List.append_nil] at this;simpa using this
    have hex:(aA x).extract 0 k=aA (x.takeWhile kK):=by rw[jW,hG]
    have hkd:(x.takeWhile kK).length=k:=by rw[hG,List.length_take];omega
    have HFD:=hid hF;rw[hF] at HR;have hkD:k=0↔x.takeWhile kK=[]:=by rw[←hkd];exact List.length_eq_zero_iff
    have Yt:(x.takeWhile kK).length≤100000000:=by omega
    generalize x.takeWhile kK=D at*;have HTL:=hid (fun W=>Kn D 48 (by decide) W);have HKD:=hid hkD;obtain⟨c3,Xe⟩:∃c3:Bool,c3=decide (D=[]∧x.head?≠some 46):=⟨_,rfl⟩;have HC3:=hid Xe;clear HF HG HC ht0 NC hG hF hkd hkD Xe;go_upto_region 5 with fail
    go_cut [27] (fun v wc=>v= .bool c3∧w2=wc);case first=>
     by_cases zO:k=0
     ·have hD0:=HKD.out.1 zO;subst zO;have h3:(!decide (x.head? =some 46))=c3:=by rw[HC3.out,hD0];simp
      generalize decide (x.head? =some 46)=pb at*;subst h3;clear hD0;go_wp2_with fail;refine(LB.out _).mono ?_;rintro e w9 ⟨rfl,rfl⟩;go_wp2_with fail
      go_meet
      case rel=>exact⟨rfl,rfl⟩
     ·have h3:c3=false:=by rw[HC3.out];simp;intro h;exact absurd (HKD.out.2 h) zO
      have hkz:((k:Int)==0)=false:=by rw[beq_eq_false_iff_ne];omega
      subst h3;go_wp2_with fail
      go_meet
      case rel=>exact⟨rfl,rfl⟩
    case rest=>
     obtain⟨rfl,rfl⟩:=hcut;cases Xe:c3 with
     |true=>subst Xe;have HX:Hid (R=none):=hid (by rw[HR.out,if_pos (of_decide_eq_true HC3.out.symm)]);go_wp2_with (first|(refine aG rfl 86 _ rfl _ (.agg (nO [] false [])) (Jy _) ?_)|(refine eW rfl 86 _ _ rfl g2 3 _ rfl rfl rE rfl (qY [] false []) (by kernel_rfl) ?_;intro w6 aH aB;replace HB:=bU HB aB.1 l2;replace rE:=aH;clear aB aH));refine dT rfl 3 _ rfl rfl rE Tryz.underlying86 rfl rfl (by kernel_rfl) rfl ?_;exact⟨HB.out,by rw[HX.out];rfl⟩
     |false=>
      subst Xe;replace HR:=hid (HR.out.trans (if_neg (of_decide_eq_false HC3.out.symm)));clear HC3 HKD LB;have HDL:Hid (Ev D=if D.dropWhile (· ==48)=[] then[48] else D.dropWhile (· ==48)):=hid rfl;generalize Ev D=dl at*;generalize D.dropWhile (· ==48)=E at*;go_wp2_with fail;refine(HTL.out _).mono ?_;rintro e w9 ⟨rfl,rfl⟩;have l5:w.heap.size≤w2.heap.size:=HB.out.size;have aqP:(aA E).toList.isEmpty=E.isEmpty:=cC E;have HEB:Hid (E.isEmpty=true↔E=[]):=hid List.isEmpty_iff;generalize E.isEmpty=eb at*;go_upto_if 36 with(first|(refine aG rfl 86 _ rfl _ (.agg (nO E false [])) (TA _ _) ?_)|(refine eX rfl (yN _) ?_;intro g5 w5 pJ hN;have n25:=fU rE hN;have l5:w.heap.size≤g5:=(by have:=hN.out.1;omega);replace rE:=rE.below hN.out.2.1;replace HB:=aR HB hN.out.2.1;clear hN)|(refine eW rfl 86 _ _ rfl g5 3 _ rfl rfl pJ rfl (qY E false []) (by kernel_rfl) ?_;intro w6 aH aB;replace rE:=rE.other aB (Nat.ne_of_lt n25);replace HB:=bU HB aB.1 l5;replace pJ:=aH;clear aB aH;have c5:=pJ.cell (i:=0) rfl))
      clear c5;go_cut [] (fun wc=>Hid (Row wc g2 86 (nO [] false []))∧Hid (Row wc g5 86 (nO dl false []))∧Hid (Below w.heap.size w wc));case first=>
       cases eb with
       |true=>
        have aiP:Hid (dl=[48]):=hid (HDL.out.trans (if_pos (HEB.out.1 rfl)));have aoI:Row w6 g5 86 #[.string (aA E),.bool false,.string (aA [])]:=pJ;clear pJ;go_wp2_with (refine dS rfl 9 _ _ rfl g5 0 _ rfl rfl rfl aoI rfl (by kernel_rfl) ?_;intro w7 aH aB;replace rE:=rE.other aB (Nat.ne_of_lt n25);replace HB:=bU HB aB.1 l5;have Lw:=aH;clear aB aH;simp[Act.eval] at Lw)
        go_meet
        case rel=>exact⟨hid rE,hid (by rw[aiP.out];exact Lw),HB⟩
       |false=>
        have aiP:Hid (dl=E):=hid (HDL.out.trans (if_neg (fun h=>by have:=HEB.out.2 h;cases this)));go_wp2_with fail
        go_meet
        case rel=>exact⟨hid rE,hid (by rw[aiP.out];exact pJ),HB⟩
      case rest=>
       clear rE pJ HB;obtain⟨HR2,HR5,HB⟩:=hcut;have rE:=HR2.out;have pJ:=HR5.out;have HYL:Hid ((x.drop k).dropWhile GV=(x.drop k).dropWhile GV):=hid rfl;clear HR2 HR5 HDL HTL hex Yt;go_wp2_with fail;go_loopg [4] (x.length - k) (fun gk i wr=>∃j:Nat,gk=x.length - j∧i= .int .i64 (j:Int)∧j≤x.length∧Hid ((x.drop k).dropWhile GV=(x.drop j).dropWhile GV)∧wc=wr);case atStart=>exact⟨k,rfl,rfl,mD,hid rfl,rfl⟩
       case round=>
        obtain⟨j,rfl,rfl,hjl,HF,rfl⟩:=hrel;have aqQ:j≤(aA x).size:=by rw[HZ.out];exact hjl
        obtain⟨cb,dO⟩:∃cb:Bool,(cb=true∧∃c,x.drop j=c::x.drop (j+1)∧j < x.length∧(GV c=true∧(c=46∨(c≠46∧kK c=true)))∧∀h:j < (aA x).size,(aA x)[j]'h=c)∨(cb=false∧(x.drop j).dropWhile GV=x.drop j∧(x.length≤j∨∃c,j < x.length∧(c≠46∧kK c=false)∧∀h:j < (aA x).size,(aA x)[j]'h=c)):=by
         by_cases bC:j < x.length
         ·obtain⟨c,hd,hg⟩:=iM bC;by_cases VO:c=46;·exact⟨true,.inl ⟨rfl,c,hd,bC,⟨by unfold GV;simp[VO],.inl VO⟩,hg⟩⟩
          ·cases hc:kK c with
           |true=>exact⟨true,.inl ⟨rfl,c,hd,bC,⟨by unfold GV;simp[hc],.inr ⟨VO,hc⟩⟩,hg⟩⟩
           |false=>exact⟨false,.inr ⟨rfl,by rw[hd];exact List.dropWhile_cons_of_neg (by unfold GV;simp[hc,VO]),.inr ⟨c,bC,⟨VO,hc⟩,hg⟩⟩⟩
         ·exact⟨false,.inr ⟨rfl,by rw[List.drop_of_length_le (by omega)];rfl,.inl (by omega)⟩⟩
        have HC:=hid dO;clear dO;go_upto_region 10 with fail
        go_cut [54] (fun v wd=>v= .bool cb∧wc=wd);case first=>
         rcases HC.out with⟨rfl,c,hd,bC,⟨_,rfl|⟨aaC,hc⟩⟩,hg⟩|⟨rfl,_,An|⟨c,bC,⟨aaC,hc⟩,hg⟩⟩
         ·have jY:j < (aA x).size:=by rw[HZ.out];exact bC
          have tL:=hg jY;clear hd hg HF;go_wp2_with fail
          go_meet
          case rel=>exact⟨rfl,rfl⟩
         ·have jY:j < (aA x).size:=by rw[HZ.out];exact bC
          have tL:=hg jY;have iE:c.toNat < 256:=c.toNat_lt;have HDC:=hid (HDG.out c);have An:=No c;rw[hc] at An;have VO:((c.toNat:Int)==46)=false:=by rw[beq_eq_false_iff_ne];intro e;exact aaC (UInt8.toNat_inj.1 (by simpa using (by omega:c.toNat=46)))
          generalize vP (nI c 10)=dg at*;clear hg hc HF aaC;go_wp2_with fail;refine(HDC.out _).mono ?_;rintro e w9 ⟨rfl,rfl⟩;go_wp2_with fail
          go_meet
          case rel=>exact⟨rfl,rfl⟩
         ·have alN:(aA x).size≤j:=by rw[HZ.out];exact An
          clear An HF;go_wp2_with fail
          go_meet
          case rel=>exact⟨rfl,rfl⟩
         ·have jY:j < (aA x).size:=by rw[HZ.out];exact bC
          have tL:=hg jY;have iE:c.toNat < 256:=c.toNat_lt;have HDC:=hid (HDG.out c);have An:=No c;rw[hc] at An;have VO:((c.toNat:Int)==46)=false:=by rw[beq_eq_false_iff_ne];intro e;exact aaC (UInt8.toNat_inj.1 (by simpa using (by omega:c.toNat=46)))
          generalize vP (nI c 10)=dg at*;clear hg hc HF aaC;go_wp2_with fail;refine(HDC.out _).mono ?_;rintro e w9 ⟨rfl,rfl⟩;go_wp2_with fail
          go_meet
          case rel=>exact⟨rfl,rfl⟩
        case rest=>
         obtain⟨rfl,rfl⟩:=hcut;rcases HC.out with⟨rfl,c,hd,bC,⟨hc,_⟩,hg⟩|⟨rfl,NC,_⟩
         ·have HN1:Hid ((x.drop k).dropWhile GV=(x.drop (j+1)).dropWhile GV):=hid (by rw[HF.out,hd,List.dropWhile_cons_of_pos hc]);clear hd hg hc HF HC;go_wp2_with fail;go_roundg (x.length - (j+1));case measure=>omega
          case rel=>exact⟨j+1,rfl,by go_num,by omega,HN1,by first|trivial|rfl⟩
         ·rw[HF.out.trans NC] at HR;have hre:=cX x j;have hyl:(x.drop j).length≤100000000:=by rw[List.length_drop];omega
          generalize x.drop j=y at*;clear HF HC NC HFD HYL;by_cases hyn:y=[]
          ·have hy:=hyn;clear hyn;have XO:(aA y).toList.isEmpty=true:=by rw[cC,hy];rfl
           have HX:Hid (R=some ⟨dl,false,[]⟩):=hid (by rw[HR.out,hy];rfl);clear hy;go_wp2_with (first|(refine fF rfl pJ R86 rfl rfl ?_)|(refine eW rfl 86 _ _ rfl g2 3 _ rfl rfl rE rfl (qY dl false []) (by kernel_rfl) ?_;intro w6 aH aB;replace HB:=bU HB aB.1 l2;replace rE:=aH;clear aB aH));refine dT rfl 3 _ rfl rfl rE Tryz.underlying86 rfl rfl (by kernel_rfl) rfl ?_;exact⟨HB.out,by rw[HX.out];rfl⟩
          ·obtain⟨c,t,hy⟩:=List.exists_cons_of_ne_nil hyn;clear hyn;have XO:(aA y).toList.isEmpty=false:=by rw[cC,hy];rfl
           have alO:0 < (aA y).size:=by rw[aD,hy];simp
           have tL:(aA y)[0]'alO=c:=by rw[jI];simp[hy]
           have iE:c.toNat < 256:=c.toNat_lt;rw[hy,Xd] at HR;rw[←hy] at HR;have HBC:=hid (mE c);have e1:((c.toNat:Int)!=59)=(c !=59):=Bo c 59 (by decide);have e2:((c.toNat:Int)!=44)=(c !=44):=Bo c 44 (by decide);have HBY:=hid (fun W=>lX y (by omega) W);have Ui:=bW aI y;generalize y.dropWhile aI=z at*;generalize aI c=b1 at*;generalize (c !=59)=b2 at*;generalize (c !=44)=b3 at*;obtain⟨c15,Xf⟩:∃c15:Bool,c15=(!b1&&(b2&&b3)):=⟨_,rfl⟩;rw[←Xf] at HR;have aiQ:=hid Xf;clear hy Xf;go_upto_region 15 with fail
           go_cut [76] (fun v wd=>v= .bool c15∧wc=wd);case first=>
            have rI:=aiQ.out;have SY:=TC b1 b2 b3 c15 rI;clear rI;rcases SY with⟨rfl,rfl⟩|⟨rfl,rfl,rfl⟩|⟨rfl,rfl,rfl⟩;all_goals
             go_wp2_with fail;refine(HBC.out _).mono ?_;rintro e w9 ⟨rfl,rfl⟩;go_wp2_with fail
             go_meet
             case rel=>exact⟨rfl,rfl⟩
           case rest=>
            obtain⟨rfl,rfl⟩:=hcut;cases Xf:c15 with
            |true=>subst Xf;have HX:Hid (R=none):=hid (by rw[HR.out,if_pos rfl]);clear aiQ;go_wp2_with (first|(refine aG rfl 86 _ rfl _ (.agg (nO [] false [])) (Jy _) ?_)|(refine eW rfl 86 _ _ rfl g2 3 _ rfl rfl rE rfl (qY [] false []) (by kernel_rfl) ?_;intro w6 aH aB;replace HB:=bU HB aB.1 l2;replace rE:=aH;clear aB aH));refine dT rfl 3 _ rfl rfl rE Tryz.underlying86 rfl rfl (by kernel_rfl) rfl ?_;exact⟨HB.out,by rw[HX.out];rfl⟩
            |false=>
             subst Xf;replace HR:=hid (HR.out.trans (if_neg (by simp)));clear aiQ HBC e1 e2 tL XO iE alO;go_wp2_with fail;refine(HBY.out _).mono ?_;rintro e w9 ⟨rfl,rfl⟩;have TY:=Dj z;obtain⟨m,hm⟩:∃m,m=lO z:=⟨_,rfl⟩;have HM:=hid hm;rw[←hm] at HR TY;clear hm HBY;obtain⟨UI,aeK⟩:∃UI:Bool,(UI=false∧z=[])∨(∃q t,z=q::t∧((UI=true∧q=59)∨(UI=true∧q≠59∧q=44)∨(UI=false∧q≠59∧q≠44))):=by
              cases z with
              |nil=>exact⟨false,.inl ⟨rfl,rfl⟩⟩
              |cons q t=>
               by_cases h1:q=59;·exact⟨true,.inr ⟨q,t,rfl,.inl ⟨rfl,h1⟩⟩⟩
               ·by_cases h2:q=44;·exact⟨true,.inr ⟨q,t,rfl,.inr (.inl ⟨rfl,h1,h2⟩)⟩⟩
                ·exact⟨false,.inr ⟨q,t,rfl,.inr (.inr ⟨rfl,h1,h2⟩)⟩⟩
             have aiR:=hid aeK;clear aeK;go_upto_region 18 with fail
             go_cut [91] (fun v wd=>v= .bool UI∧wc=wd);case first=>
              rcases aiR.out with⟨rfl,hz⟩|⟨q,t2,hz,hq⟩
              ·have XO:(aA z).toList.isEmpty=true:=by rw[cC,hz];rfl
               clear hz;go_wp2_with fail
               go_meet
               case rel=>exact⟨rfl,rfl⟩
              ·have XO:(aA z).toList.isEmpty=false:=by rw[cC,hz];rfl
               have aiS:0 < (aA z).size:=by rw[aD,hz];simp
               have tL:(aA z)[0]'aiS=q:=by rw[jI];simp[hz]
               have iE:q.toNat < 256:=q.toNat_lt;clear hz;rcases hq with⟨rfl,rfl⟩|⟨rfl,_,rfl⟩|⟨rfl,h1,h2⟩
               ·go_wp2_with fail
                go_meet
                case rel=>exact⟨rfl,rfl⟩
               ·go_wp2_with fail
                go_meet
                case rel=>exact⟨rfl,rfl⟩
               ·have e1:((q.toNat:Int)==59)=false:=by rw[beq_eq_false_iff_ne];intro e;exact h1 (UInt8.toNat_inj.1 (by simpa using (by omega:q.toNat=59)))
                have e2:((q.toNat:Int)==44)=false:=by rw[beq_eq_false_iff_ne];intro e;exact h2 (UInt8.toNat_inj.1 (by simpa using (by omega:q.toNat=44)))
                clear h1 h2;go_wp2_with fail
                go_meet
                case rel=>exact⟨rfl,rfl⟩
             case rest=>
              obtain⟨rfl,rfl⟩:=hcut;go_upto_if 91 with fail
              go_cut [0] (fun v wd=>v= .string (aA m)∧wc=wd);case first=>
               rcases aiR.out with⟨rfl,hz⟩|⟨q,t2,hz,hq⟩
               ·have hm:aA z=aA m:=by rw[HM.out,hz];rfl
                have HMZ:=hid hm;clear hz hm HM;go_wp2_with fail
                go_meet
                case rel=>exact⟨congrArg Value.string HMZ.out,rfl⟩
               ·rcases hq with⟨rfl,hq⟩|⟨rfl,_,hq⟩|⟨rfl,h1,h2⟩
                ·have hm:m=t2.dropWhile aI:=by rw[HM.out,hz,lO,if_pos (by simp[hq])]
                 have hre:(aA z).extract 1 (aA z).size=aA t2:=by rw[cX,hz];rfl
                 have aiS:1≤(aA z).size:=by rw[aD,hz];simp
                 have hzi:(1:Int)≤((aA z).size:Int):=by omega
                 have HBT:=hid (fun W=>lX t2 (by rw[hz,List.length_cons] at Ui;omega) W);rw[←hm] at HBT;clear hm hz hq;go_wp2_with fail;refine(HBT.out _).mono ?_;rintro e w9 ⟨rfl,rfl⟩;go_wp2_with fail
                 go_meet
                 case rel=>exact⟨rfl,rfl⟩
                ·have hm:m=t2.dropWhile aI:=by rw[HM.out,hz,lO,if_pos (by simp[hq])]
                 have hre:(aA z).extract 1 (aA z).size=aA t2:=by rw[cX,hz];rfl
                 have aiS:1≤(aA z).size:=by rw[aD,hz];simp
                 have hzi:(1:Int)≤((aA z).size:Int):=by omega
                 have HBT:=hid (fun W=>lX t2 (by rw[hz,List.length_cons] at Ui;omega) W);rw[←hm] at HBT;clear hm hz hq;go_wp2_with fail;refine(HBT.out _).mono ?_;rintro e w9 ⟨rfl,rfl⟩;go_wp2_with fail
                 go_meet
                 case rel=>exact⟨rfl,rfl⟩
                ·have hm:aA z=aA m:=by rw[HM.out,hz,lO,if_neg (fun h=>h.elim h1 h2)]
                 have HMZ:=hid hm;clear hz hm HM h1 h2;go_wp2_with fail
                 go_meet
                 case rel=>exact⟨congrArg Value.string HMZ.out,rfl⟩
              case rest=>
               obtain⟨rfl,rfl⟩:=hcut;clear aiR HM;by_cases hm:m=[]
               ·have XO:(aA m).toList.isEmpty=true:=by rw[cC,hm];rfl
                have HX:Hid (R=some ⟨dl,false,[]⟩):=hid (by rw[HR.out,if_pos hm]);clear hm;go_wp2_with (first|(refine fF rfl pJ R86 rfl rfl ?_)|(refine eW rfl 86 _ _ rfl g2 3 _ rfl rfl rE rfl (qY dl false []) (by kernel_rfl) ?_;intro w6 aH aB;replace HB:=bU HB aB.1 l2;replace rE:=aH;clear aB aH));refine dT rfl 3 _ rfl rfl rE Tryz.underlying86 rfl rfl (by kernel_rfl) rfl ?_;exact⟨HB.out,by rw[HX.out];rfl⟩
               ·have XO:(aA m).toList.isEmpty=false:=mM hm;have alP:m≠[]:=hm;have HX:Hid (R=some ⟨dl,true,nD (nZ m)⟩):=hid (by rw[HR.out,if_neg alP]);have W4:=hid (fun W=>GU m (by omega) W);have Pd:=Ht m;have HUQ:=hid (fun W hW=>Fm (nZ m) (by omega) W hW);generalize nD (nZ m)=uq at*;generalize nZ m=un at*;clear hm alP Pd;have l5:=l5;go_wp2_with (refine oT 1 rfl pJ rfl I4 ?_;intro w7 aH aB;replace rE:=rE.other aB (Nat.ne_of_lt n25);replace HB:=bU HB aB.1 l5;have Lw:Row w7 g5 86 (nO dl true []):=aH;clear aB aH);refine(W4.out _).mono ?_;rintro e w8 ⟨rfl,aM⟩;replace rE:=rE.below aM;replace Lw:=Lw.below aM;replace HB:=aR HB aM;clear aM;go_wp2_with fail;refine(HUQ.out _ (HW.out.below HB.out HW.out.size)).mono ?_;rintro e w8 ⟨rfl,aM⟩;replace rE:=rE.below aM;replace Lw:=Lw.below aM;replace HB:=aR HB aM;clear aM pJ;go_wp2_with (first|(refine oT 2 rfl Lw rfl I9 ?_;intro w7 aH aB;replace rE:=rE.other aB (Nat.ne_of_lt n25);replace HB:=bU HB aB.1 l5;have pJ:Row w7 g5 86 (nO dl true uq):=aH;clear aB aH)|(refine fF rfl pJ R86 rfl rfl ?_)|(refine eW rfl 86 _ _ rfl g2 3 _ rfl rfl rE rfl (qY dl true uq) (by kernel_rfl) ?_;intro w6 aH aB;replace HB:=bU HB aB.1 l2;replace rE:=aH;clear aB aH));refine dT rfl 3 _ rfl rfl rE Tryz.underlying86 rfl rfl (by kernel_rfl) rfl ?_;exact⟨HB.out,by rw[HX.out];rfl⟩
end Go.Proofs.YtmgmclkplepapaaGreatDoor
