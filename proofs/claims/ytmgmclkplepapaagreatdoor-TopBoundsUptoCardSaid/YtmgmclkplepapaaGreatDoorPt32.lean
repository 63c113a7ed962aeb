/- Part of the proof of TopBoundsUptoCardSaid. Conditions: none beyond the statement. -/
import Derived.Test.YtmgmclkplepapaaGreatDoorPt31
set_option linter.all false
set_option maxRecDepth 100000
set_option maxHeartbeats 64000000
namespace Go.Proofs.YtmgmclkplepapaaGreatDoor
open Go.RowKit
theorem P0 (w:World):(Instr.build 32 #[(0,.int .i64 1)]).run Tryz.prog w= .ok (.agg (cL {kind:=1})) w:=by kernel_rfl
theorem P1 (l:List UInt8) (w:World):(Instr.build 32 #[(0,.int .i64 2),(1,.string (aA l))]).run Tryz.prog w= .ok (.agg (cL {kind:=2,name:=l})) w:=by kernel_rfl
theorem P2 (n:Nat) (w:World):(Instr.build 32 #[(0,.int .i64 3),(2,.int .u32 (n:Int))]).run Tryz.prog w= .ok (.agg (cL {kind:=3,four:=n})) w:=by kernel_rfl
theorem P3 (l:List UInt8) (w:World):(Instr.build 32 #[(0,.int .i64 5),(1,.string (aA l))]).run Tryz.prog w= .ok (.agg (cL {kind:=5,name:=l})) w:=by kernel_rfl
def M7 (c:UInt8):Bool:=Eu c||decide (c.toNat < 32)||c==37||c==127
theorem P4 {f:UInt8→Bool} {l:List UInt8} {k:Nat} (h:k < l.length):(l.drop k).any f=(f (l[k]'h)||(l.drop (k+1)).any f):=by rw[List.drop_eq_getElem_cons h,List.any_cons]
theorem P5 {s:List UInt8} (h:nP fQ (nL s)=none):nJ nL fQ s=none:=by unfold nJ;rw[h]
theorem P6 {s name:List UInt8} (h:nP fQ (nL s)=some name):nJ nL fQ s=if name=[] then none
 else if name.any M7 then none else if Hs name then(mJ name).map fun n=>{kind:=3,four:=n} else some {kind:=2,name:=name}:=by
 unfold nJ;rw[h];rfl
theorem S8 (s:List UInt8) (hs:s.length≤5000000) (w:World) (hW:Laid w):Calls Tryz.prog 201 #[.string (aA s)] w fun e w'=>e= .returned (iS (nJ nL fQ s))∧Below w.heap.size w w':=by
 have HW:=hid hW;have HD:=hid (fun W=>MA (aA s) W (by rw[aD];omega));have CK:=Bg s;have HI:=hid (fun W hW=>PZ (nL s) W hW (by omega));simp only[aC] at HD;have HN:= @P5 s;have HM:= @P6 s;have HWT:∀name,nP fQ (nL s)=some name→name.length≤100000000:=by intro name h;have h1:=BM h;have h2:=AL name;unfold dL at h2;omega
 generalize hdd:nL s=d at*;clear hW CK hdd;rcases MF:nP fQ d with _|name;have HF:=hid (HN MF);rw[MF] at HI;clear HN HM HWT MF;have tg:=Tg.k 0;rotate_left;have hm:=HM MF;have Ec:=HWT name MF;rw[MF] at HI;clear HN HM HWT MF;by_cases h0:name=[];subst h0;rw[if_pos rfl] at hm;have HF:=hid hm;have hz:((aA []).toList==[])=true:=by rw[ByteArray.toList_eq,aC];rfl
 have qK:(aA []).toList.isEmpty=true:=by rw[ByteArray.toList_eq,aC];rfl
 clear hm Ec;have tg:=Tg.k 1;rotate_left;rw[if_neg h0] at hm;have HM:=hid hm;have eG:=mM h0;have GD:((aA name).toList==[])=false:=by rw[ByteArray.toList_eq,aC];exact beq_eq_false_iff_ne.mpr h0
 have HZ:=hid (aD name);have HNL:=hid Ec;clear hm h0;have tg:=Tg.k 2;all_goals
  go_enter Tryz.func201,Tryz.ntmps201;go_wp2_with (refine eX rfl (mP _) ?_;intro gA w1 aL hA);obtain⟨Fb,xH,Fc⟩:=hA.out;have HB:=hid xH;have zZ:w.heap.size≤gA:=by omega
  clear Fb xH Fc hA;refine(HD.out _).mono ?_;rintro e w4 ⟨v,rfl,bE,cG⟩;replace aL:=aL.below cG;replace HB:=aR HB cG;have G2:=oD bE;clear cG;go_wp2_with fail;refine(HI.out _ (HW.out.below HB.out HW.out.size)).mono ?_;first
  |have:Tg 0:=tg;rintro e w5 ⟨⟨x,rfl,_⟩,aM⟩
  |rintro e w5 ⟨⟨x,rfl,hx⟩,aM⟩;obtain rfl:=hx _ rfl
  replace aL:=aL.below aM;replace HB:=aR HB aM;first
  |have:Tg 0:=tg;clear aM G2 bE
  |clear aM G2 bE hx
  go_wp2_with (first|fail|(refine aG rfl 32 _ rfl _ _ (iT _) ?_)|(refine lU rfl aL rfl (by kernel_rfl) ?_;intro w1 aH aB;replace HB:=bU HB aB.1 zZ;replace aL:=aH;clear aB aH));first
  |have:Tg 2:=tg;go_loopw [25] (fun i wr=>∃k:Nat,i= .int .i64 (k:Int)∧k≤x.length∧Hid (x.any M7=(x.drop k).any M7)∧w5=wr) (fun i _=>x.length - (intOf i).toNat);case atStart=>exact⟨0,rfl,Nat.zero_le _,hid rfl,rfl⟩
   case round=>
    obtain⟨k,rfl,hk,hF,rfl⟩:=hrel;by_cases bC:k < x.length
    ·have jY:k < (aA x).size:=by rw[HZ.out];exact bC
     have hg:(aA x)[k]'jY=x[k]'bC:=jI x k jY;have aT:=hF.out;rw[P4 bC] at aT;have iE:(x[k]'bC).toNat < 256:=(x[k]'bC).toNat_lt;obtain⟨c,hc⟩:∃c,c=x[k]'bC:=⟨_,rfl⟩;rw[←hc] at hg aT iE;have ZQ:=hid (Ol c);have wI:M7 c=(Eu c||decide (c.toNat < 32)||c==37||c==127):=rfl;have e32:decide ((c.toNat:Int) < 32)=decide (c.toNat < 32):=by rw[decide_eq_decide];omega
     have e37:((c.toNat:Int)==37)=(c==37):=lT c 37 (by decide);have aqH:((c.toNat:Int)==127)=(c==127):=lT c 127 (by decide);generalize Eu c=b0 at*;generalize decide (c.toNat < 32)=b32 at*;generalize (c==37)=b37 at*;generalize (c==127)=aiA at*;clear hF hc;have dO:(b0=true∧M7 c=true)∨(b0=false∧b32=true∧M7 c=true)∨(b0=false∧b32=false∧b37=true∧M7 c=true)∨(b0=false∧b32=false∧b37=false∧aiA=true∧M7 c=true)∨(b0=false∧b32=false∧b37=false∧aiA=false∧M7 c=false):=by cases b0<;>cases b32<;>cases b37<;>cases aiA<;>simp_all
     clear wI;rcases dO with⟨rfl,wI⟩|⟨rfl,rfl,wI⟩|⟨rfl,rfl,rfl,wI⟩|⟨rfl,rfl,rfl,rfl,wI⟩|⟨rfl,rfl,rfl,rfl,wI⟩;iterate 4
      ·rw[wI,Bool.true_or] at aT;have HF:Hid (nJ nL fQ s=none):=hid (by rw[HM.out,if_pos aT]);clear aT wI;go_wp2_with fail;refine(ZQ.out _).mono ?_;rintro e w' ⟨rfl,rfl⟩;go_wp2_with (first|fail|(refine aG rfl 32 _ rfl _ _ (iT _) ?_)|(refine lU rfl aL rfl (by kernel_rfl) ?_;intro w1 aH aB;replace HB:=bU HB aB.1 zZ;replace aL:=aH;clear aB aH));refine dF rfl _ rfl rfl aL Tryz.underlying32 rfl (by kernel_rfl) rfl ?_;exact⟨by rw[HF.out];rfl,HB.out⟩
     ·rw[wI,Bool.false_or] at aT;have HF:=hid aT;clear aT wI;go_wp2_with fail;refine(ZQ.out _).mono ?_;rintro e w' ⟨rfl,rfl⟩;go_wp2_with fail;go_roundw;case rel=>exact⟨k+1,by go_num,by omega,HF,trivial⟩
      case measure=>simp[intOf];omega
    ·obtain rfl:k=x.length:=by omega
     have Lg:Hid (nJ nL fQ s=if Hs x then(mJ x).map fun n=>{kind:=3,four:=n} else some {kind:=2,name:=x}):=hid (by rw[HM.out,if_neg (by rw[hF.out,List.drop_length];decide)]);have HE:=hid (fun W hW=>Wf x (by have:=HNL.out;omega) W hW);have HP:=hid (fun W hW=>Sx x (by have:=HNL.out;omega) W hW);have Bc:=HZ.out;clear hF HZ;cases hfe:Hs x with
     |false=>rw[hfe] at Lg HE;have HF:=hid (show nJ nL fQ s=some {kind:=2,name:=x} from Lg.out);clear Lg hfe;go_wp2_with fail;refine(HE.out _ (HW.out.below HB.out HW.out.size)).mono ?_;rintro e w4 ⟨rfl,cG⟩;replace aL:=aL.below cG;replace HB:=aR HB cG;clear cG;go_wp2_with (first|(refine aG rfl 32 _ rfl _ _ (P1 x _) ?_)|(refine aG rfl 32 _ rfl _ _ (iT _) ?_)|(refine lU rfl aL rfl (by kernel_rfl) ?_;intro w1 aH aB;replace HB:=bU HB aB.1 zZ;replace aL:=aH;clear aB aH));refine dF rfl _ rfl rfl aL Tryz.underlying32 rfl (by kernel_rfl) rfl ?_;exact⟨by rw[HF.out];rfl,HB.out⟩
     |true=>
      rw[hfe] at Lg HE;cases hfp:mJ x with
      |none=>rw[hfp] at Lg HP;have HF:=hid (show nJ nL fQ s=none from Lg.out);simp only[Zc] at HP;clear Lg hfe hfp;go_wp2_with fail;refine(HE.out _ (HW.out.below HB.out HW.out.size)).mono ?_;rintro e w4 ⟨rfl,cG⟩;replace aL:=aL.below cG;replace HB:=aR HB cG;clear cG;go_wp2_with fail;refine(HP.out _ (HW.out.below HB.out HW.out.size)).mono ?_;rintro e w4 ⟨rfl,cG⟩;replace aL:=aL.below cG;replace HB:=aR HB cG;clear cG;go_wp2_with (first|fail|(refine aG rfl 32 _ rfl _ _ (iT _) ?_)|(refine lU rfl aL rfl (by kernel_rfl) ?_;intro w1 aH aB;replace HB:=bU HB aB.1 zZ;replace aL:=aH;clear aB aH));refine dF rfl _ rfl rfl aL Tryz.underlying32 rfl (by kernel_rfl) rfl ?_;exact⟨by rw[HF.out];rfl,HB.out⟩
      |some n=>rw[hfp] at Lg HP;have HF:=hid (show nJ nL fQ s=some {kind:=3,four:=n} from Lg.out);simp only[Zc] at HP;clear Lg hfe hfp;go_wp2_with fail;refine(HE.out _ (HW.out.below HB.out HW.out.size)).mono ?_;rintro e w4 ⟨rfl,cG⟩;replace aL:=aL.below cG;replace HB:=aR HB cG;clear cG;go_wp2_with fail;refine(HP.out _ (HW.out.below HB.out HW.out.size)).mono ?_;rintro e w4 ⟨rfl,cG⟩;replace aL:=aL.below cG;replace HB:=aR HB cG;clear cG;go_wp2_with (first|(refine aG rfl 32 _ rfl _ _ (P2 n _) ?_)|(refine aG rfl 32 _ rfl _ _ (iT _) ?_)|(refine lU rfl aL rfl (by kernel_rfl) ?_;intro w1 aH aB;replace HB:=bU HB aB.1 zZ;replace aL:=aH;clear aB aH));refine dF rfl _ rfl rfl aL Tryz.underlying32 rfl (by kernel_rfl) rfl ?_;exact⟨by rw[HF.out];rfl,HB.out⟩
  |refine dF rfl _ rfl rfl aL Tryz.underlying32 rfl (by kernel_rfl) rfl ?_;exact⟨by rw[HF.out];rfl,HB.out⟩
end Go.Proofs.YtmgmclkplepapaaGreatDoor
