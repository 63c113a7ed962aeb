/- Part of the proof of TopBoundsUptoCardSaid. Conditions: none beyond the statement. -/
import Derived.Test.YtmgmclkplepapaaGreatDoorPt42
set_option linter.all false
set_option maxRecDepth 100000
set_option maxHeartbeats 64000000
namespace Go.Proofs.YtmgmclkplepapaaGreatDoor
open Go.RowKit
def nP (d:List UInt8) (b:Bool) (u:List UInt8):Array Value:= #[.string (aA d),.bool b,.string (aA u)]
def aoI (o:Option NS) (w:World) (e:Ending) (w':World):Prop:=Below w.heap.size w w'∧e= .returned (.tuple #[.agg (match o with
 |some r=>nP r.xT r.CF r.url
 |none=>nP [] false []),.bool o.isSome])
theorem yO (w:World) (uY:Value):(Instr.alloc 86 true uY).run Tryz.prog w= .ok (.pointer (some ⟨w.heap.size,0,none⟩)) (w.alloc (.cells (nP [] false []) 86)):=by kernel_rfl
theorem qZ (d:List UInt8) (b:Bool) (u:List UInt8):BD 3 (nP d b u):=⟨rfl,by kernel_rfl⟩
theorem Jz (w:World):(Instr.build 86 #[]).run Tryz.prog w= .ok (.agg (nP [] false [])) w:=by kernel_rfl
theorem TB (d:List UInt8) (w:World):(Instr.build 86 #[(0,.string (aA d))]).run Tryz.prog w= .ok (.agg (nP d false [])) w:=by kernel_rfl
def GW (c:UInt8):Bool:=c==46||kL c
theorem TC (s:List UInt8):oB s=if(s.dropWhile aI).takeWhile kL=[]∧(s.dropWhile aI).head?≠some 46 then none else pR (Ew ((s.dropWhile aI).takeWhile kL)) (((s.dropWhile aI).dropWhile kL).dropWhile GW):=rfl
theorem Xe (d:List UInt8) (c:UInt8) (t:List UInt8):pR d (c::t)=if(!aI c&&(c !=59&&c !=44))=true then none else
 if lP ((c::t).dropWhile aI)=[] then some ⟨d,false,[]⟩ else some ⟨d,true,nE (oA (lP ((c::t).dropWhile aI)))⟩:=by
 rw[pR];congr 1;rw[Bool.and_assoc]
theorem Np (c:UInt8):decide ((0:Int)≤vQ (nJ c 10))=kL c:=by
 have:=Uv c;cases h:kL c with
 |true=>rw[h] at this;simp at this;simpa using this
 |false=>rw[h] at this;simp at this;simp;omega
theorem Gf (s:List UInt8) (q:UInt8):([q]:List UInt8).isPrefixOf s=decide (s.head? =some q):=by
 cases s with
 |nil=>rfl
 |cons a r=>simp[List.isPrefixOf];rw[Bool.eq_iff_iff];simp;exact eq_comm
theorem TD:∀b1 b2 b3 c:Bool,c=(!b1&&(b2&&b3))→(b1=true∧c=false)∨(b1=false∧b2=false∧c=false)∨(b1=false∧b2=true∧c=b3):=by decide
set_option maxRecDepth 1000000 in
theorem xF (s:List UInt8) (hs:s.length≤100000000) (w:World) (hW:Laid w):Calls Tryz.prog 44 #[.string (aA s)] w fun e w'=>aoI (oB s) w e w':=by
 have HW:=hid hW;have HR:=hid (TC s);have jP:=hid (fun W=>lY s (by omega) W);have HS1:(s.dropWhile aI).length≤100000000:=Nat.le_trans (bW aI s) hs;generalize oB s=R at*;generalize s.dropWhile aI=x at*;have HZ:=hid (aD x);have HB:Hid (Below w.heap.size w w):=hid (Below.refl _ _);have HDG:=hid (fun(c:UInt8) W=>mH c 10 (by decide) (by decide) 10 rfl W);have LC:=hid (fun W=>jU x [46] W);rw[Gf] at LC;clear hW hs;go_enter Tryz.func44,Tryz.ntmps44;go_wp2_with (first|(refine eX rfl (yO _) ?_;intro g2 w2 rF hN;have l2:=jV HB hN;replace HB:=aR HB hN.out.2.1;clear hN));refine(jP.out _).mono ?_;rintro e w9 ⟨rfl,rfl⟩;go_wp2_with fail;go_loopg [4] (x.length) (fun gk i wr=>∃k:Nat,gk=x.length - k∧i= .int .i64 (k:Int)∧k≤x.length∧Hid (x.dropWhile kL=(x.drop k).dropWhile kL)∧Hid ((x.drop 0).takeWhile kL=(x.drop 0).take (k - 0)++(x.drop k).takeWhile kL)∧w2=wr);case atStart=>exact⟨0,rfl,rfl,Nat.zero_le _,hid rfl,hid (by simp),rfl⟩
 case round=>
  obtain⟨k,rfl,rfl,mE,HF,HG,rfl⟩:=hrel;have MF:k≤(aA x).size:=by rw[HZ.out];exact mE
  obtain⟨cb,dO⟩:∃cb:Bool,(cb=true∧∃c,x.drop k=c::x.drop (k+1)∧k < x.length∧kL c=true∧∀h:k < (aA x).size,(aA x)[k]'h=c)∨(cb=false∧(x.drop k).takeWhile kL=[]∧(x.drop k).dropWhile kL=x.drop k∧(x.length≤k∨∃c,k < x.length∧kL c=false∧∀h:k < (aA x).size,(aA x)[k]'h=c)):=by
   by_cases bC:k < x.length
   ·obtain⟨c,hd,hg⟩:=iN bC;cases hc:kL c with
    |true=>exact⟨true,.inl ⟨rfl,c,hd,bC,hc,hg⟩⟩
    |false=>exact⟨false,.inr ⟨rfl,by rw[hd];exact List.takeWhile_cons_of_neg (by simp[hc]),by rw[hd];exact List.dropWhile_cons_of_neg (by simp[hc]),.inr ⟨c,bC,hc,hg⟩⟩⟩
   ·exact⟨false,.inr ⟨rfl,by rw[List.drop_of_length_le (by omega)];rfl,by rw[List.drop_of_length_le (by omega)];rfl,.inl (by omega)⟩⟩
  have HC:=hid dO;clear dO;go_upto_region 3 with fail
  go_cut [18] (fun v wc=>v= .bool cb∧w2=wc);case first=>
   rcases HC.out with⟨rfl,c,hd,bC,hc,hg⟩|⟨rfl,_,_,Ao|⟨c,bC,hc,hg⟩⟩
   ·have jZ:k < (aA x).size:=by rw[HZ.out];exact bC
    have tM:=hg jZ;have iF:c.toNat < 256:=c.toNat_lt;have HDC:=hid (HDG.out c);have Ao:=Np c;rw[hc] at Ao;generalize vQ (nJ c 10)=dg at*;clear hg hc HF HG;go_wp2_with fail;refine(HDC.out _).mono ?_;rintro e w9 ⟨rfl,rfl⟩;go_wp2_with fail
    go_meet
    case rel=>exact⟨rfl,rfl⟩
   ·have alO:(aA x).size≤k:=by rw[HZ.out];exact Ao
    clear Ao HF HG;go_wp2_with fail
    go_meet
    case rel=>exact⟨rfl,rfl⟩
   ·have jZ:k < (aA x).size:=by rw[HZ.out];exact bC
    have tM:=hg jZ;have iF:c.toNat < 256:=c.toNat_lt;have HDC:=hid (HDG.out c);have Ao:=Np c;rw[hc] at Ao;generalize vQ (nJ c 10)=dg at*;clear hg hc HF HG;go_wp2_with fail;refine(HDC.out _).mono ?_;rintro e w9 ⟨rfl,rfl⟩;go_wp2_with fail
    go_meet
    case rel=>exact⟨rfl,rfl⟩
  case rest=>
   obtain⟨rfl,rfl⟩:=hcut;rcases HC.out with⟨rfl,c,hd,bC,hc,hg⟩|⟨rfl,ht0,ND,_⟩
   ·have HN1:Hid (x.dropWhile kL=(x.drop (k+1)).dropWhile kL):=hid (by rw[HF.out,hd,List.dropWhile_cons_of_pos hc]);have HN2:=hid (BY (Nat.zero_le k) bC hd hc HG.out);clear hd hg hc HF HG HC;go_wp2_with fail;go_roundg (x.length - (k+1));case measure=>omega
    case rel=>exact⟨k+1,rfl,by go_num,by omega,HN1,HN2,by first|trivial|rfl⟩
   ·have hF:x.dropWhile kL=x.drop k:=HF.out.trans ND;have hG:x.takeWhile kL=x.take k:=by have:=HG.out;rw[ht0,List.append_nil] at this;simpa using this
    have hex:(aA x).extract 0 k=aA (x.takeWhile kL):=by rw[jX,hG]
    have hkd:(x.takeWhile kL).length=k:=by rw[hG,List.length_take];omega
    have HFD:=hid hF;rw[hF] at HR;have hkD:k=0↔x.takeWhile kL=[]:=by rw[←hkd];exact List.length_eq_zero_iff
    have Yu:(x.takeWhile kL).length≤100000000:=by omega
    generalize x.takeWhile kL=D at*;have HTL:=hid (fun W=>Ko D 48 (by decide) W);have HKD:=hid hkD;obtain⟨c3,Xf⟩:∃c3:Bool,c3=decide (D=[]∧x.head?≠some 46):=⟨_,rfl⟩;have HC3:=hid Xf;clear HF HG HC ht0 ND hG hF hkd hkD Xf;go_upto_region 5 with fail
    go_cut [27] (fun v wc=>v= .bool c3∧w2=wc);case first=>
     by_cases zP:k=0
     ·have hD0:=HKD.out.1 zP;subst zP;have h3:(!decide (x.head? =some 46))=c3:=by rw[HC3.out,hD0];simp
      generalize decide (x.head? =some 46)=pb at*;subst h3;clear hD0;go_wp2_with fail;refine(LC.out _).mono ?_;rintro e w9 ⟨rfl,rfl⟩;go_wp2_with fail
      go_meet
      case rel=>exact⟨rfl,rfl⟩
     ·have h3:c3=false:=by rw[HC3.out];simp;intro h;exact absurd (HKD.out.2 h) zP
      have hkz:((k:Int)==0)=false:=by rw[beq_eq_false_iff_ne];omega
      subst h3;go_wp2_with fail
      go_meet
      case rel=>exact⟨rfl,rfl⟩
    case rest=>
     obtain⟨rfl,rfl⟩:=hcut;cases Xf:c3 with
     |true=>subst Xf;have HX:Hid (R=none):=hid (by rw[HR.out,if_pos (of_decide_eq_true HC3.out.symm)]);go_wp2_with (first|(refine aG rfl 86 _ rfl _ (.agg (nP [] false [])) (Jz _) ?_)|(refine eW rfl 86 _ _ rfl g2 3 _ rfl rfl rF rfl (qZ [] false []) (by kernel_rfl) ?_;intro w6 aH aB;replace HB:=bU HB aB.1 l2;replace rF:=aH;clear aB aH));refine dT rfl 3 _ rfl rfl rF Tryz.underlying86 rfl rfl (by kernel_rfl) rfl ?_;exact⟨HB.out,by rw[HX.out];rfl⟩
     |false=>
      subst Xf;replace HR:=hid (HR.out.trans (if_neg (of_decide_eq_false HC3.out.symm)));clear HC3 HKD LC;have HDL:Hid (Ew D=if D.dropWhile (· ==48)=[] then[48] else D.dropWhile (· ==48)):=hid rfl;generalize Ew D=dl at*;generalize D.dropWhile (· ==48)=E at*;go_wp2_with fail;refine(HTL.out _).mono ?_;rintro e w9 ⟨rfl,rfl⟩;have l5:w.heap.size≤w2.heap.size:=HB.out.size;have aqQ:(aA E).toList.isEmpty=E.isEmpty:=cC E;have HEB:Hid (E.isEmpty=true↔E=[]):=hid List.isEmpty_iff;generalize E.isEmpty=eb at*;go_upto_if 36 with(first|(refine aG rfl 86 _ rfl _ (.agg (nP E false [])) (TB _ _) ?_)|(refine eX rfl (yO _) ?_;intro g5 w5 pK hN;have n25:=fU rF hN;have l5:w.heap.size≤g5:=(by have:=hN.out.1;omega);replace rF:=rF.below hN.out.2.1;replace HB:=aR HB hN.out.2.1;clear hN)|(refine eW rfl 86 _ _ rfl g5 3 _ rfl rfl pK rfl (qZ E false []) (by kernel_rfl) ?_;intro w6 aH aB;replace rF:=rF.other aB (Nat.ne_of_lt n25);replace HB:=bU HB aB.1 l5;replace pK:=aH;clear aB aH;have c5:=pK.cell (i:=0) rfl))
      clear c5;go_cut [] (fun wc=>Hid (Row wc g2 86 (nP [] false []))∧Hid (Row wc g5 86 (nP dl false []))∧Hid (Below w.heap.size w wc));case first=>
       cases eb with
       |true=>
        have aiQ:Hid (dl=[48]):=hid (HDL.out.trans (if_pos (HEB.out.1 rfl)));have aoJ:Row w6 g5 86 #[.string (aA E),.bool false,.string (aA [])]:=pK;clear pK;go_wp2_with (refine dS rfl 9 _ _ rfl g5 0 _ rfl rfl rfl aoJ rfl (by kernel_rfl) ?_;intro w7 aH aB;replace rF:=rF.other aB (Nat.ne_of_lt n25);replace HB:=bU HB aB.1 l5;have Lx:=aH;clear aB aH;simp[Act.eval] at Lx)
        go_meet
        case rel=>exact⟨hid rF,hid (by rw[aiQ.out];exact Lx),HB⟩
       |false=>
        have aiQ:Hid (dl=E):=hid (HDL.out.trans (if_neg (fun h=>by have:=HEB.out.2 h;cases this)));go_wp2_with fail
        go_meet
        case rel=>exact⟨hid rF,hid (by rw[aiQ.out];exact pK),HB⟩
      case rest=>
       clear rF pK HB;obtain⟨HR2,HR5,HB⟩:=hcut;have rF:=HR2.out;have pK:=HR5.out;have HYL:Hid ((x.drop k).dropWhile GW=(x.drop k).dropWhile GW):=hid rfl;clear HR2 HR5 HDL HTL hex Yu;go_wp2_with fail;go_loopg [4] (x.length - k) (fun gk i wr=>∃j:Nat,gk=x.length - j∧i= .int .i64 (j:Int)∧j≤x.length∧Hid ((x.drop k).dropWhile GW=(x.drop j).dropWhile GW)∧wc=wr);case atStart=>exact⟨k,rfl,rfl,mE,hid rfl,rfl⟩
       case round=>
        obtain⟨j,rfl,rfl,hjl,HF,rfl⟩:=hrel;have aqR:j≤(aA x).size:=by rw[HZ.out];exact hjl
        obtain⟨cb,dO⟩:∃cb:Bool,(cb=true∧∃c,x.drop j=c::x.drop (j+1)∧j < x.length∧(GW c=true∧(c=46∨(c≠46∧kL c=true)))∧∀h:j < (aA x).size,(aA x)[j]'h=c)∨(cb=false∧(x.drop j).dropWhile GW=x.drop j∧(x.length≤j∨∃c,j < x.length∧(c≠46∧kL c=false)∧∀h:j < (aA x).size,(aA x)[j]'h=c)):=by
         by_cases bC:j < x.length
         ·obtain⟨c,hd,hg⟩:=iN bC;by_cases VP:c=46;·exact⟨true,.inl ⟨rfl,c,hd,bC,⟨by unfold GW;simp[VP],.inl VP⟩,hg⟩⟩
          ·cases hc:kL c with
           |true=>exact⟨true,.inl ⟨rfl,c,hd,bC,⟨by unfold GW;simp[hc],.inr ⟨VP,hc⟩⟩,hg⟩⟩
           |false=>exact⟨false,.inr ⟨rfl,by rw[hd];exact List.dropWhile_cons_of_neg (by unfold GW;simp[hc,VP]),.inr ⟨c,bC,⟨VP,hc⟩,hg⟩⟩⟩
         ·exact⟨false,.inr ⟨rfl,by rw[List.drop_of_length_le (by omega)];rfl,.inl (by omega)⟩⟩
        have HC:=hid dO;clear dO;go_upto_region 10 with fail
        go_cut [54] (fun v wd=>v= .bool cb∧wc=wd);case first=>
         rcases HC.out with⟨rfl,c,hd,bC,⟨_,rfl|⟨aaD,hc⟩⟩,hg⟩|⟨rfl,_,Ao|⟨c,bC,⟨aaD,hc⟩,hg⟩⟩
         ·have jZ:j < (aA x).size:=by rw[HZ.out];exact bC
          have tM:=hg jZ;clear hd hg HF;go_wp2_with fail
          go_meet
          case rel=>exact⟨rfl,rfl⟩
         ·have jZ:j < (aA x).size:=by rw[HZ.out];exact bC
          have tM:=hg jZ;have iF:c.toNat < 256:=c.toNat_lt;have HDC:=hid (HDG.out c);have Ao:=Np c;rw[hc] at Ao;have VP:((c.toNat:Int)==46)=false:=by rw[beq_eq_false_iff_ne];intro e;exact aaD (UInt8.toNat_inj.1 (by simpa using (by omega:c.toNat=46)))
          generalize vQ (nJ c 10)=dg at*;clear hg hc HF aaD;go_wp2_with fail;refine(HDC.out _).mono ?_;rintro e w9 ⟨rfl,rfl⟩;go_wp2_with fail
          go_meet
          case rel=>exact⟨rfl,rfl⟩
         ·have alO:(aA x).size≤j:=by rw[HZ.out];exact Ao
          clear Ao HF;go_wp2_with fail
          go_meet
          case rel=>exact⟨rfl,rfl⟩
         ·have jZ:j < (aA x).size:=by rw[HZ.out];exact bC
          have tM:=hg jZ;have iF:c.toNat < 256:=c.toNat_lt;have HDC:=hid (HDG.out c);have Ao:=Np c;rw[hc] at Ao;have VP:((c.toNat:Int)==46)=false:=by rw[beq_eq_false_iff_ne];intro e;exact aaD (UInt8.toNat_inj.1 (by simpa using (by omega:c.toNat=46)))
          generalize vQ (nJ c 10)=dg at*;clear hg hc HF aaD;go_wp2_with fail;refine(HDC.out _).mono ?_;rintro e w9 ⟨rfl,rfl⟩;go_wp2_with fail
          go_meet
          case rel=>exact⟨rfl,rfl⟩
        case rest=>
         obtain⟨rfl,rfl⟩:=hcut;rcases HC.out with⟨rfl,c,hd,bC,⟨hc,_⟩,hg⟩|⟨rfl,ND,_⟩
         ·have HN1:Hid ((x.drop k).dropWhile GW=(x.drop (j+1)).dropWhile GW):=hid (by rw[HF.out,hd,List.dropWhile_cons_of_pos hc]);clear hd hg hc HF HC;go_wp2_with fail;go_roundg (x.length - (j+1));case measure=>omega
          case rel=>exact⟨j+1,rfl,by go_num,by omega,HN1,by first|trivial|rfl⟩
         ·rw[HF.out.trans ND] at HR;have hre:=cX x j;have hyl:(x.drop j).length≤100000000:=by rw[List.length_drop];omega
          generalize x.drop j=y at*;clear HF HC ND HFD HYL;by_cases hyn:y=[]
          ·have hy:=hyn;clear hyn;have XP:(aA y).toList.isEmpty=true:=by rw[cC,hy];rfl
           have HX:Hid (R=some ⟨dl,false,[]⟩):=hid (by rw[HR.out,hy];rfl);clear hy;go_wp2_with (first|(refine fF rfl pK R86 rfl rfl ?_)|(refine eW rfl 86 _ _ rfl g2 3 _ rfl rfl rF rfl (qZ dl false []) (by kernel_rfl) ?_;intro w6 aH aB;replace HB:=bU HB aB.1 l2;replace rF:=aH;clear aB aH));refine dT rfl 3 _ rfl rfl rF Tryz.underlying86 rfl rfl (by kernel_rfl) rfl ?_;exact⟨HB.out,by rw[HX.out];rfl⟩
          ·obtain⟨c,t,hy⟩:=List.exists_cons_of_ne_nil hyn;clear hyn;have XP:(aA y).toList.isEmpty=false:=by rw[cC,hy];rfl
           have alP:0 < (aA y).size:=by rw[aD,hy];simp
           have tM:(aA y)[0]'alP=c:=by rw[jJ];simp[hy]
           have iF:c.toNat < 256:=c.toNat_lt;rw[hy,Xe] at HR;rw[←hy] at HR;have HBC:=hid (mF c);have e1:((c.toNat:Int)!=59)=(c !=59):=Bp c 59 (by decide);have e2:((c.toNat:Int)!=44)=(c !=44):=Bp c 44 (by decide);have HBY:=hid (fun W=>lY y (by omega) W);have Uj:=bW aI y;generalize y.dropWhile aI=z at*;generalize aI c=b1 at*;generalize (c !=59)=b2 at*;generalize (c !=44)=b3 at*;obtain⟨c15,Xg⟩:∃c15:Bool,c15=(!b1&&(b2&&b3)):=⟨_,rfl⟩;rw[←Xg] at HR;have aiR:=hid Xg;clear hy Xg;go_upto_region 15 with fail
           go_cut [76] (fun v wd=>v= .bool c15∧wc=wd);case first=>
            have rJ:=aiR.out;have S0:=TD b1 b2 b3 c15 rJ;clear rJ;rcases S0 with⟨rfl,rfl⟩|⟨rfl,rfl,rfl⟩|⟨rfl,rfl,rfl⟩;all_goals
             go_wp2_with fail;refine(HBC.out _).mono ?_;rintro e w9 ⟨rfl,rfl⟩;go_wp2_with fail
             go_meet
             case rel=>exact⟨rfl,rfl⟩
           case rest=>
            obtain⟨rfl,rfl⟩:=hcut;cases Xg:c15 with
            |true=>subst Xg;have HX:Hid (R=none):=hid (by rw[HR.out,if_pos rfl]);clear aiR;go_wp2_with (first|(refine aG rfl 86 _ rfl _ (.agg (nP [] false [])) (Jz _) ?_)|(refine eW rfl 86 _ _ rfl g2 3 _ rfl rfl rF rfl (qZ [] false []) (by kernel_rfl) ?_;intro w6 aH aB;replace HB:=bU HB aB.1 l2;replace rF:=aH;clear aB aH));refine dT rfl 3 _ rfl rfl rF Tryz.underlying86 rfl rfl (by kernel_rfl) rfl ?_;exact⟨HB.out,by rw[HX.out];rfl⟩
            |false=>
             subst Xg;replace HR:=hid (HR.out.trans (if_neg (by simp)));clear aiR HBC e1 e2 tM XP iF alP;go_wp2_with fail;refine(HBY.out _).mono ?_;rintro e w9 ⟨rfl,rfl⟩;have TZ:=Dk z;obtain⟨m,hm⟩:∃m,m=lP z:=⟨_,rfl⟩;have HM:=hid hm;rw[←hm] at HR TZ;clear hm HBY;obtain⟨UJ,aeL⟩:∃UJ:Bool,(UJ=false∧z=[])∨(∃q t,z=q::t∧((UJ=true∧q=59)∨(UJ=true∧q≠59∧q=44)∨(UJ=false∧q≠59∧q≠44))):=by
              cases z with
              |nil=>exact⟨false,.inl ⟨rfl,rfl⟩⟩
              |cons q t=>
               by_cases h1:q=59;·exact⟨true,.inr ⟨q,t,rfl,.inl ⟨rfl,h1⟩⟩⟩
               ·by_cases h2:q=44;·exact⟨true,.inr ⟨q,t,rfl,.inr (.inl ⟨rfl,h1,h2⟩)⟩⟩
                ·exact⟨false,.inr ⟨q,t,rfl,.inr (.inr ⟨rfl,h1,h2⟩)⟩⟩
             have aiS:=hid aeL;clear aeL;go_upto_region 18 with fail
             go_cut [91] (fun v wd=>v= .bool UJ∧wc=wd);case first=>
              rcases aiS.out with⟨rfl,hz⟩|⟨q,t2,hz,hq⟩
              ·have XP:(aA z).toList.isEmpty=true:=by rw[cC,hz];rfl
               clear hz;go_wp2_with fail
               go_meet
               case rel=>exact⟨rfl,rfl⟩
              ·have XP:(aA z).toList.isEmpty=false:=by rw[cC,hz];rfl
               have aiT:0 < (aA z).size:=by rw[aD,hz];simp
               have tM:(aA z)[0]'aiT=q:=by rw[jJ];simp[hz]
               have iF:q.toNat < 256:=q.toNat_lt;clear hz;rcases hq with⟨rfl,rfl⟩|⟨rfl,_,rfl⟩|⟨rfl,h1,h2⟩
               ·go_wp2_with fail
                go_meet
                case rel=>exact⟨rfl,rfl⟩
               ·go_wp2_with fail
                go_meet
                case rel=>exact⟨rfl,rfl⟩
               ·have e1:((q.toNat:Int)==59)=false:=by rw[beq_eq_false_iff_ne];intro e;exact h1 (UInt8.toNat_inj.1 (by simpa using (by omega:q.toNat=59)))
                have e2:((q.toNat:Int)==44)=false:=by rw[beq_eq_false_iff_ne];intro e;exact h2 (UInt8.toNat_inj.1 (by simpa using (by omega:q.toNat=44)))
                clear h1 h2;go_wp2_with fail
                go_meet
                case rel=>exact⟨rfl,rfl⟩
             case rest=>
              obtain⟨rfl,rfl⟩:=hcut;go_upto_if 91 with fail
              go_cut [0] (fun v wd=>v= .string (aA m)∧wc=wd);case first=>
               rcases aiS.out with⟨rfl,hz⟩|⟨q,t2,hz,hq⟩
               ·have hm:aA z=aA m:=by rw[HM.out,hz];rfl
                have HMZ:=hid hm;clear hz hm HM;go_wp2_with fail
                go_meet
                case rel=>exact⟨congrArg Value.string HMZ.out,rfl⟩
               ·rcases hq with⟨rfl,hq⟩|⟨rfl,_,hq⟩|⟨rfl,h1,h2⟩
                ·have hm:m=t2.dropWhile aI:=by rw[HM.out,hz,lP,if_pos (by simp[hq])]
                 have hre:(aA z).extract 1 (aA z).size=aA t2:=by rw[cX,hz];rfl
                 have aiT:1≤(aA z).size:=by rw[aD,hz];simp
                 have hzi:(1:Int)≤((aA z).size:Int):=by omega
                 have HBT:=hid (fun W=>lY t2 (by rw[hz,List.length_cons] at Uj;omega) W);rw[←hm] at HBT;clear hm hz hq;go_wp2_with fail;refine(HBT.out _).mono ?_;rintro e w9 ⟨rfl,rfl⟩;go_wp2_with fail
                 go_meet
                 case rel=>exact⟨rfl,rfl⟩
                ·have hm:m=t2.dropWhile aI:=by rw[HM.out,hz,lP,if_pos (by simp[hq])]
                 have hre:(aA z).extract 1 (aA z).size=aA t2:=by rw[cX,hz];rfl
                 have aiT:1≤(aA z).size:=by rw[aD,hz];simp
                 have hzi:(1:Int)≤((aA z).size:Int):=by omega
                 have HBT:=hid (fun W=>lY t2 (by rw[hz,List.length_cons] at Uj;omega) W);rw[←hm] at HBT;clear hm hz hq;go_wp2_with fail;refine(HBT.out _).mono ?_;rintro e w9 ⟨rfl,rfl⟩;go_wp2_with fail
                 go_meet
                 case rel=>exact⟨rfl,rfl⟩
                ·have hm:aA z=aA m:=by rw[HM.out,hz,lP,if_neg (fun h=>h.elim h1 h2)]
                 have HMZ:=hid hm;clear hz hm HM h1 h2;go_wp2_with fail
                 go_meet
                 case rel=>exact⟨congrArg Value.string HMZ.out,rfl⟩
              case rest=>
               obtain⟨rfl,rfl⟩:=hcut;clear aiS HM;by_cases hm:m=[]
               ·have XP:(aA m).toList.isEmpty=true:=by rw[cC,hm];rfl
                have HX:Hid (R=some ⟨dl,false,[]⟩):=hid (by rw[HR.out,if_pos hm]);clear hm;go_wp2_with (first|(refine fF rfl pK R86 rfl rfl ?_)|(refine eW rfl 86 _ _ rfl g2 3 _ rfl rfl rF rfl (qZ dl false []) (by kernel_rfl) ?_;intro w6 aH aB;replace HB:=bU HB aB.1 l2;replace rF:=aH;clear aB aH));refine dT rfl 3 _ rfl rfl rF Tryz.underlying86 rfl rfl (by kernel_rfl) rfl ?_;exact⟨HB.out,by rw[HX.out];rfl⟩
               ·have XP:(aA m).toList.isEmpty=false:=mN hm;have alQ:m≠[]:=hm;have HX:Hid (R=some ⟨dl,true,nE (oA m)⟩):=hid (by rw[HR.out,if_neg alQ]);have W5:=hid (fun W=>GV m (by omega) W);have Pe:=Hu m;have HUQ:=hid (fun W hW=>Fo (oA m) (by omega) W hW);generalize nE (oA m)=uq at*;generalize oA m=un at*;clear hm alQ Pe;have l5:=l5;go_wp2_with (refine oU 1 rfl pK rfl I4 ?_;intro w7 aH aB;replace rF:=rF.other aB (Nat.ne_of_lt n25);replace HB:=bU HB aB.1 l5;have Lx:Row w7 g5 86 (nP dl true []):=aH;clear aB aH);refine(W5.out _).mono ?_;rintro e w8 ⟨rfl,aM⟩;replace rF:=rF.below aM;replace Lx:=Lx.below aM;replace HB:=aR HB aM;clear aM;go_wp2_with fail;refine(HUQ.out _ (HW.out.below HB.out HW.out.size)).mono ?_;rintro e w8 ⟨rfl,aM⟩;replace rF:=rF.below aM;replace Lx:=Lx.below aM;replace HB:=aR HB aM;clear aM pK;go_wp2_with (first|(refine oU 2 rfl Lx rfl I9 ?_;intro w7 aH aB;replace rF:=rF.other aB (Nat.ne_of_lt n25);replace HB:=bU HB aB.1 l5;have pK:Row w7 g5 86 (nP dl true uq):=aH;clear aB aH)|(refine fF rfl pK R86 rfl rfl ?_)|(refine eW rfl 86 _ _ rfl g2 3 _ rfl rfl rF rfl (qZ dl true uq) (by kernel_rfl) ?_;intro w6 aH aB;replace HB:=bU HB aB.1 l2;replace rF:=aH;clear aB aH));refine dT rfl 3 _ rfl rfl rF Tryz.underlying86 rfl rfl (by kernel_rfl) rfl ?_;exact⟨HB.out,by rw[HX.out];rfl⟩
end Go.Proofs.YtmgmclkplepapaaGreatDoor
