/- Part of the proof of TopBoundsUptoCardSaid. Conditions: none beyond the statement. -/
import Derived.Test.YtmgmclkplepapaaGreatDoorPt31
set_option linter.all false
set_option maxRecDepth 100000
set_option maxHeartbeats 64000000
namespace Go.Proofs.YtmgmclkplepapaaGreatDoor
open Go.RowKit
theorem P1 (w:World):(Instr.build 32 #[(0,.int .i64 1)]).run Tryz.prog w= .ok (.agg (cL {kind:=1})) w:=by kernel_rfl
theorem P2 (l:List UInt8) (w:World):(Instr.build 32 #[(0,.int .i64 2),(1,.string (aA l))]).run Tryz.prog w= .ok (.agg (cL {kind:=2,name:=l})) w:=by kernel_rfl
theorem P3 (n:Nat) (w:World):(Instr.build 32 #[(0,.int .i64 3),(2,.int .u32 (n:Int))]).run Tryz.prog w= .ok (.agg (cL {kind:=3,four:=n})) w:=by kernel_rfl
theorem P4 (l:List UInt8) (w:World):(Instr.build 32 #[(0,.int .i64 5),(1,.string (aA l))]).run Tryz.prog w= .ok (.agg (cL {kind:=5,name:=l})) w:=by kernel_rfl
def M8 (c:UInt8):Bool:=Ev c||decide (c.toNat < 32)||c==37||c==127
theorem P5 {f:UInt8→Bool} {l:List UInt8} {k:Nat} (h:k < l.length):(l.drop k).any f=(f (l[k]'h)||(l.drop (k+1)).any f):=by rw[List.drop_eq_getElem_cons h,List.any_cons]
theorem P6 {s:List UInt8} (h:nQ fQ (nM s)=none):nK nM fQ s=none:=by unfold nK;rw[h]
theorem P7 {s name:List UInt8} (h:nQ fQ (nM s)=some name):nK nM fQ s=if name=[] then none
 else if name.any M8 then none else if Ht name then(mK name).map fun n=>{kind:=3,four:=n} else some {kind:=2,name:=name}:=by
 unfold nK;rw[h];rfl
theorem S9 (s:List UInt8) (hs:s.length≤5000000) (w:World) (hW:Laid w):Calls Tryz.prog 201 #[.string (aA s)] w fun e w'=>e= .returned (iT (nK nM fQ s))∧Below w.heap.size w w':=by
 have HW:=hid hW;have HD:=hid (fun W=>MB (aA s) W (by rw[aD];omega));have CL:=Bh s;have HI:=hid (fun W hW=>P0 (nM s) W hW (by omega));simp only[aC] at HD;have HN:= @P6 s;have HM:= @P7 s;have HWT:∀name,nQ fQ (nM s)=some name→name.length≤100000000:=by intro name h;have h1:=BN h;have h2:=AM name;unfold dL at h2;omega
 generalize hdd:nM s=d at*;clear hW CL hdd;rcases MG:nQ fQ d with _|name;have HF:=hid (HN MG);rw[MG] at HI;clear HN HM HWT MG;have tg:=Tg.k 0;rotate_left;have hm:=HM MG;have Ed:=HWT name MG;rw[MG] at HI;clear HN HM HWT MG;by_cases h0:name=[];subst h0;rw[if_pos rfl] at hm;have HF:=hid hm;have hz:((aA []).toList==[])=true:=by rw[ByteArray.toList_eq,aC];rfl
 have qL:(aA []).toList.isEmpty=true:=by rw[ByteArray.toList_eq,aC];rfl
 clear hm Ed;have tg:=Tg.k 1;rotate_left;rw[if_neg h0] at hm;have HM:=hid hm;have eG:=mN h0;have GF:((aA name).toList==[])=false:=by rw[ByteArray.toList_eq,aC];exact beq_eq_false_iff_ne.mpr h0
 have HZ:=hid (aD name);have HNL:=hid Ed;clear hm h0;have tg:=Tg.k 2;all_goals
  go_enter Tryz.func201,Tryz.ntmps201;go_wp2_with (refine eX rfl (mQ _) ?_;intro gA w1 aL hA);obtain⟨Fc,xI,Fe⟩:=hA.out;have HB:=hid xI;have Aa:w.heap.size≤gA:=by omega
  clear Fc xI Fe hA;refine(HD.out _).mono ?_;rintro e w4 ⟨v,rfl,bE,cG⟩;replace aL:=aL.below cG;replace HB:=aR HB cG;have G3:=oE bE;clear cG;go_wp2_with fail;refine(HI.out _ (HW.out.below HB.out HW.out.size)).mono ?_;first
  |have:Tg 0:=tg;rintro e w5 ⟨⟨x,rfl,_⟩,aM⟩
  |rintro e w5 ⟨⟨x,rfl,hx⟩,aM⟩;obtain rfl:=hx _ rfl
  replace aL:=aL.below aM;replace HB:=aR HB aM;first
  |have:Tg 0:=tg;clear aM G3 bE
  |clear aM G3 bE hx
  go_wp2_with (first|fail|(refine aG rfl 32 _ rfl _ _ (iU _) ?_)|(refine lV rfl aL rfl (by kernel_rfl) ?_;intro w1 aH aB;replace HB:=bU HB aB.1 Aa;replace aL:=aH;clear aB aH));first
  |have:Tg 2:=tg;go_loopw [25] (fun i wr=>∃k:Nat,i= .int .i64 (k:Int)∧k≤x.length∧Hid (x.any M8=(x.drop k).any M8)∧w5=wr) (fun i _=>x.length - (intOf i).toNat);case atStart=>exact⟨0,rfl,Nat.zero_le _,hid rfl,rfl⟩
   case round=>
    obtain⟨k,rfl,hk,hF,rfl⟩:=hrel;by_cases bC:k < x.length
    ·have jZ:k < (aA x).size:=by rw[HZ.out];exact bC
     have hg:(aA x)[k]'jZ=x[k]'bC:=jJ x k jZ;have aT:=hF.out;rw[P5 bC] at aT;have iF:(x[k]'bC).toNat < 256:=(x[k]'bC).toNat_lt;obtain⟨c,hc⟩:∃c,c=x[k]'bC:=⟨_,rfl⟩;rw[←hc] at hg aT iF;have ZR:=hid (Om c);have wK:M8 c=(Ev c||decide (c.toNat < 32)||c==37||c==127):=rfl;have e32:decide ((c.toNat:Int) < 32)=decide (c.toNat < 32):=by rw[decide_eq_decide];omega
     have e37:((c.toNat:Int)==37)=(c==37):=lU c 37 (by decide);have aqI:((c.toNat:Int)==127)=(c==127):=lU c 127 (by decide);generalize Ev c=b0 at*;generalize decide (c.toNat < 32)=b32 at*;generalize (c==37)=b37 at*;generalize (c==127)=aiB at*;clear hF hc;have dO:(b0=true∧M8 c=true)∨(b0=false∧b32=true∧M8 c=true)∨(b0=false∧b32=false∧b37=true∧M8 c=true)∨(b0=false∧b32=false∧b37=false∧aiB=true∧M8 c=true)∨(b0=false∧b32=false∧b37=false∧aiB=false∧M8 c=false):=by cases b0<;>cases b32<;>cases b37<;>cases aiB<;>simp_all
     clear wK;rcases dO with⟨rfl,wK⟩|⟨rfl,rfl,wK⟩|⟨rfl,rfl,rfl,wK⟩|⟨rfl,rfl,rfl,rfl,wK⟩|⟨rfl,rfl,rfl,rfl,wK⟩;iterate 4
      ·rw[wK,Bool.true_or] at aT;have HF:Hid (nK nM fQ s=none):=hid (by rw[HM.out,if_pos aT]);clear aT wK;go_wp2_with fail;refine(ZR.out _).mono ?_;rintro e w' ⟨rfl,rfl⟩;go_wp2_with (first|fail|(refine aG rfl 32 _ rfl _ _ (iU _) ?_)|(refine lV rfl aL rfl (by kernel_rfl) ?_;intro w1 aH aB;replace HB:=bU HB aB.1 Aa;replace aL:=aH;clear aB aH));refine dF rfl _ rfl rfl aL Tryz.underlying32 rfl (by kernel_rfl) rfl ?_;exact⟨by rw[HF.out];rfl,HB.out⟩
     ·rw[wK,Bool.false_or] at aT;have HF:=hid aT;clear aT wK;go_wp2_with fail;refine(ZR.out _).mono ?_;rintro e w' ⟨rfl,rfl⟩;go_wp2_with fail;go_roundw;case rel=>exact⟨k+1,by go_num,by omega,HF,trivial⟩
      case measure=>simp[intOf];omega
    ·obtain rfl:k=x.length:=by omega
     have Lh:Hid (nK nM fQ s=if Ht x then(mK x).map fun n=>{kind:=3,four:=n} else some {kind:=2,name:=x}):=hid (by rw[HM.out,if_neg (by rw[hF.out,List.drop_length];decide)]);have HE:=hid (fun W hW=>Wg x (by have:=HNL.out;omega) W hW);have HP:=hid (fun W hW=>Sy x (by have:=HNL.out;omega) W hW);have Bd:=HZ.out;clear hF HZ;cases hfe:Ht x with
     |false=>rw[hfe] at Lh HE;have HF:=hid (show nK nM fQ s=some {kind:=2,name:=x} from Lh.out);clear Lh hfe;go_wp2_with fail;refine(HE.out _ (HW.out.below HB.out HW.out.size)).mono ?_;rintro e w4 ⟨rfl,cG⟩;replace aL:=aL.below cG;replace HB:=aR HB cG;clear cG;go_wp2_with (first|(refine aG rfl 32 _ rfl _ _ (P2 x _) ?_)|(refine aG rfl 32 _ rfl _ _ (iU _) ?_)|(refine lV rfl aL rfl (by kernel_rfl) ?_;intro w1 aH aB;replace HB:=bU HB aB.1 Aa;replace aL:=aH;clear aB aH));refine dF rfl _ rfl rfl aL Tryz.underlying32 rfl (by kernel_rfl) rfl ?_;exact⟨by rw[HF.out];rfl,HB.out⟩
     |true=>
      rw[hfe] at Lh HE;cases hfp:mK x with
      |none=>rw[hfp] at Lh HP;have HF:=hid (show nK nM fQ s=none from Lh.out);simp only[Zd] at HP;clear Lh hfe hfp;go_wp2_with fail;refine(HE.out _ (HW.out.below HB.out HW.out.size)).mono ?_;rintro e w4 ⟨rfl,cG⟩;replace aL:=aL.below cG;replace HB:=aR HB cG;clear cG;go_wp2_with fail;refine(HP.out _ (HW.out.below HB.out HW.out.size)).mono ?_;rintro e w4 ⟨rfl,cG⟩;replace aL:=aL.below cG;replace HB:=aR HB cG;clear cG;go_wp2_with (first|fail|(refine aG rfl 32 _ rfl _ _ (iU _) ?_)|(refine lV rfl aL rfl (by kernel_rfl) ?_;intro w1 aH aB;replace HB:=bU HB aB.1 Aa;replace aL:=aH;clear aB aH));refine dF rfl _ rfl rfl aL Tryz.underlying32 rfl (by kernel_rfl) rfl ?_;exact⟨by rw[HF.out];rfl,HB.out⟩
      |some n=>rw[hfp] at Lh HP;have HF:=hid (show nK nM fQ s=some {kind:=3,four:=n} from Lh.out);simp only[Zd] at HP;clear Lh hfe hfp;go_wp2_with fail;refine(HE.out _ (HW.out.below HB.out HW.out.size)).mono ?_;rintro e w4 ⟨rfl,cG⟩;replace aL:=aL.below cG;replace HB:=aR HB cG;clear cG;go_wp2_with fail;refine(HP.out _ (HW.out.below HB.out HW.out.size)).mono ?_;rintro e w4 ⟨rfl,cG⟩;replace aL:=aL.below cG;replace HB:=aR HB cG;clear cG;go_wp2_with (first|(refine aG rfl 32 _ rfl _ _ (P3 n _) ?_)|(refine aG rfl 32 _ rfl _ _ (iU _) ?_)|(refine lV rfl aL rfl (by kernel_rfl) ?_;intro w1 aH aB;replace HB:=bU HB aB.1 Aa;replace aL:=aH;clear aB aH));refine dF rfl _ rfl rfl aL Tryz.underlying32 rfl (by kernel_rfl) rfl ?_;exact⟨by rw[HF.out];rfl,HB.out⟩
  |refine dF rfl _ rfl rfl aL Tryz.underlying32 rfl (by kernel_rfl) rfl ?_;exact⟨by rw[HF.out];rfl,HB.out⟩
end Go.Proofs.YtmgmclkplepapaaGreatDoor
