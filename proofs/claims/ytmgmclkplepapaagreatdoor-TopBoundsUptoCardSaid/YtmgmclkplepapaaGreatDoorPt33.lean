/- Part of the proof of TopBoundsUptoCardSaid. Conditions: none beyond the statement. -/
import Derived.Test.YtmgmclkplepapaaGreatDoorPt32
set_option linter.all false
set_option maxRecDepth 100000
set_option maxHeartbeats 64000000
namespace Go.Proofs.YtmgmclkplepapaaGreatDoor
open Go.RowKit
def pO (k:Nat) (l:List UInt8):List UInt8:=vP (k:Int) l
def oW (s:List UInt8) (sp:Bool):Option lK:=T9 nM fQ pO s sp
theorem Jm (t:List UInt8) (sp:Bool):oW (91::t) sp=sY t:=rfl
theorem Jn {s:List UInt8} (h:([91].isPrefixOf s)=false) (sp:Bool):oW s sp=if sp then nK nM fQ s
 else if s=[] then some {kind:=1} else if s.any Ev then none else some {kind:=5,name:=pO 0 s}:=by
 unfold oW T9;split;·rename_i t;exact absurd h (by simp)
 ·rfl
theorem ZS:(⟨#[91]⟩:ByteArray)=aA [91]:=rfl
theorem oJ (l:List UInt8) (set:Nat) (n:Int) (hn:n=(set:Int)) (w:World) (hs:l.length≤1000000000):Calls Tryz.prog 140 #[.string (aA l),.int .i64 n] w fun e w'=>e= .returned (.string (aA (pO set l)))∧Below w.heap.size w w':=by subst hn;refine(DG (aA l) (set:Int) w (by rw[aD];exact hs)).mono ?_;rintro e w' ⟨h1,h2⟩;rw[aC] at h1;exact⟨h1,h2⟩
theorem mS (s:List UInt8) (sp:Bool) (hs:s.length≤5000000) (w:World) (hW:Laid w):Calls Tryz.prog 176 #[.string (aA s),.bool sp] w fun e w'=>e= .returned (iT (oW s sp))∧Below w.heap.size w w':=by
 have HW:=hid hW;have HX:=hid (fun W=>jU s [91] W);clear hW;by_cases hp:([91].isPrefixOf s)=true;have ht:∃t,s=91::t:=by
  cases s with
  |nil=>simp at hp
  |cons c t=>have:(91==c&&true)=true:=hp;rw[Bool.and_true,beq_iff_eq] at this;exact⟨t,by rw[this]⟩
 obtain⟨t,rfl⟩:=ht;rw[hp] at HX;have jB:=hid (Jm t sp);have As:t.length≤1000000000:=by simp at hs;omega
 have IE:=hid (fun W hW=>Jc t As W hW);obtain⟨eG,rL,hk,hg,he⟩:=wG t 91;clear hg eG rL hp;generalize aA (91::t)=x at*;rcases hb:sY t with _|z;rw[hb] at IE jB;have HF:=jB;simp only[iT,cL,eY,List.map] at IE;clear jB hb;have tg:=Tg.k 0;rotate_left;have hz:z.six.length=8:=by
  unfold sY at hb;split at hb;·obtain⟨a,ha,rfl⟩:=Option.map_eq_some_iff.1 hb;exact(Fi ha).1
  ·cases hb
 obtain⟨zk,zn,zf,zs⟩:=z;obtain⟨x0,x1,x2,x3,x4,x5,x6,x7,rfl⟩:=eight hz;rw[hb] at IE jB;have HF:=jB;simp only[iT,cL,eY,List.map] at IE;clear jB hb hz;have tg:=Tg.k 1;rotate_left;have JP:([91].isPrefixOf s)=false:=Bool.eq_false_iff.mpr hp;rw[JP] at HX;have HE:=hid (Jn JP sp);clear hp JP;cases sp;have HE2:Hid (oW s false=if s=[] then some {kind:=1} else if s.any Ev then none else some {kind:=5,name:=pO 0 s}):=hid HE.out;clear HE;by_cases h0:s=[];subst h0;have HF:=hid (HE2.out.trans (if_pos rfl));have hz:((aA []).toList==[])=true:=by rw[ByteArray.toList_eq,aC];rfl
 have qL:(aA []).toList.isEmpty=true:=by rw[ByteArray.toList_eq,aC];rfl
 clear HE2;have tg:=Tg.k 4;rotate_left;have HM:=hid (HE2.out.trans (if_neg h0));have eG:=mN h0;have GF:((aA s).toList==[])=false:=by rw[ByteArray.toList_eq,aC];exact beq_eq_false_iff_ne.mpr h0
 have HZ:=hid (aD s);have HEN:=hid (fun W (_:Laid W)=>oJ s 0 0 rfl W (by omega));clear HE2 h0;have tg:=Tg.k 5;rotate_left;have jB:Hid (oW s true=nK nM fQ s):=hid HE.out;have HM:=hid (fun W hW=>S9 s hs W hW);have HSX:∀h,nK nM fQ s=some h→h.six=[0,0,0,0,0,0,0,0]:=by
  intro h hh;unfold nK at hh;split at hh;·cases hh
  ·split at hh;·cases hh
   split at hh;·cases hh
   split at hh;·obtain⟨n,_,rfl⟩:=Option.map_eq_some_iff.1 hh;rfl
   ·cases hh;rfl
 clear HE;rcases hb:nK nM fQ s with _|z;rw[hb] at HM jB;have HF:=jB;simp only[iT,cL,eY,List.map] at HM;clear jB hb HSX;have tg:=Tg.k 2;rotate_left;have hz:=HSX z hb;obtain⟨zk,zn,zf,zs⟩:=z;simp only at hz;subst hz;rw[hb] at HM jB;have HF:=jB;simp only[iT,cL,eY,List.map] at HM;clear jB hb HSX;have tg:=Tg.k 3;all_goals
  go_enter Tryz.func176,Tryz.ntmps176;go_wp2_with (refine eX rfl (mQ _) ?_;intro gA w1 aL hA);obtain⟨Fc,xI,Fe⟩:=hA.out;have HB:=hid xI;have Aa:w.heap.size≤gA:=by omega
  clear Fc xI Fe hA;rw[ZS];refine(HX.out _).mono ?_;rintro e w' ⟨rfl,rfl⟩;go_wp2_with (first|(refine aG rfl 32 _ rfl _ _ (P1 _) ?_)|(refine aG rfl 32 _ rfl _ _ (iU _) ?_)|(refine lV rfl aL rfl (by kernel_rfl) ?_;intro w1 aH aB;replace HB:=bU HB aB.1 Aa;replace aL:=aH;clear aB aH));first
  |have:Tg 5:=tg;go_loopw [24] (fun i wr=>∃k:Nat,i= .int .i64 (k:Int)∧k≤s.length∧Hid (s.any Ev=(s.drop k).any Ev)∧w1=wr) (fun i _=>s.length - (intOf i).toNat);case atStart=>exact⟨0,rfl,Nat.zero_le _,hid rfl,rfl⟩
   case round=>
    obtain⟨k,rfl,hk,hF,rfl⟩:=hrel;by_cases bC:k < s.length
    ·have jZ:k < (aA s).size:=by rw[HZ.out];exact bC
     have hg:(aA s)[k]'jZ=s[k]'bC:=jJ s k jZ;have aT:=hF.out;rw[P5 bC] at aT;have iF:(s[k]'bC).toNat < 256:=(s[k]'bC).toNat_lt;obtain⟨c,hc⟩:∃c,c=s[k]'bC:=⟨_,rfl⟩;rw[←hc] at hg aT iF;have ZR:=hid (Om c);generalize Ev c=b0 at*;clear hF hc;cases b0 with
     |true=>rw[Bool.true_or] at aT;have HF:Hid (oW s false=none):=hid (by rw[HM.out,if_pos aT]);clear aT;go_wp2_with fail;refine(ZR.out _).mono ?_;rintro e w' ⟨rfl,rfl⟩;go_wp2_with (first|fail|(refine aG rfl 32 _ rfl _ _ (iU _) ?_)|(refine lV rfl aL rfl (by kernel_rfl) ?_;intro w1 aH aB;replace HB:=bU HB aB.1 Aa;replace aL:=aH;clear aB aH));refine dF rfl _ rfl rfl aL Tryz.underlying32 rfl (by kernel_rfl) rfl ?_;exact⟨by rw[HF.out];rfl,HB.out⟩
     |false=>
      rw[Bool.false_or] at aT;have HF:=hid aT;clear aT;go_wp2_with fail;refine(ZR.out _).mono ?_;rintro e w' ⟨rfl,rfl⟩;go_wp2_with fail;go_roundw;case rel=>exact⟨k+1,by go_num,by omega,HF,trivial⟩
      case measure=>simp[intOf];omega
    ·obtain rfl:k=s.length:=by omega
     have HF:Hid (oW s false=some {kind:=5,name:=pO 0 s}):=hid (by rw[HM.out,if_neg (by rw[hF.out,List.drop_length];decide)]);have Bd:=HZ.out;clear hF HZ;go_wp2_with fail;refine(HEN.out _ (HW.out.below HB.out HW.out.size)).mono ?_;rintro e w4 ⟨rfl,cG⟩;replace aL:=aL.below cG;replace HB:=aR HB cG;clear cG;go_wp2_with (first|(refine aG rfl 32 _ rfl _ _ (P4 _ _) ?_)|(refine aG rfl 32 _ rfl _ _ (iU _) ?_)|(refine lV rfl aL rfl (by kernel_rfl) ?_;intro w1 aH aB;replace HB:=bU HB aB.1 Aa;replace aL:=aH;clear aB aH));refine dF rfl _ rfl rfl aL Tryz.underlying32 rfl (by kernel_rfl) rfl ?_;exact⟨by rw[HF.out];rfl,HB.out⟩
  |first
   |have:Tg 4:=tg
   |first
    |(first|have:Tg 0:=tg|have:Tg 1:=tg)
     refine(IE.out _ (HW.out.below HB.out HW.out.size)).mono ?_
    |refine(HM.out _ (HW.out.below HB.out HW.out.size)).mono ?_
    rintro e w4 ⟨rfl,cG⟩;replace aL:=aL.below cG;replace HB:=aR HB cG;clear cG;go_wp2_with (first|fail|(refine aG rfl 32 _ rfl _ _ (iU _) ?_)|(refine lV rfl aL rfl (by kernel_rfl) ?_;intro w1 aH aB;replace HB:=bU HB aB.1 Aa;replace aL:=aH;clear aB aH))
   refine dF rfl _ rfl rfl aL Tryz.underlying32 rfl (by kernel_rfl) rfl ?_;exact⟨by rw[HF.out];rfl,HB.out⟩
theorem qW {s:List UInt8} {sp:Bool} {h:lK} (hs:s.length≤5000000) (hh:oW s sp=some h):nO h:=by
 by_cases hp:([91].isPrefixOf s)=true
 ·cases s with
  |nil=>simp at hp
  |cons c t=>
   have:(91==c&&true)=true:=hp;rw[Bool.and_true,beq_iff_eq] at this;subst this;rw[Jm] at hh;unfold sY at hh;split at hh;·obtain⟨a,ha,rfl⟩:=Option.map_eq_some_iff.1 hh;have h1:=Fi ha;exact⟨h1.1,h1.2,by simp,by simp,by simp⟩
   ·cases hh
 ·rw[Jn (Bool.eq_false_iff.mpr hp)] at hh;split at hh
  ·unfold nK at hh;split at hh;·cases hh
   ·rename_i name hn;have h1:=BN hn;have h2:=AM name;have h3:=Bh s;unfold dL at h2;split at hh;·cases hh
    split at hh;·cases hh
    split at hh
    ·obtain⟨n,hn,rfl⟩:=Option.map_eq_some_iff.mp hh;refine⟨rfl,by simp,?_,by simp,by simp⟩;unfold mK at hn;split at hn;·cases hn
     ·obtain⟨m,_,rfl⟩:=Option.map_eq_some_iff.mp hn;exact Nat.mod_lt _ (by decide)
    ·cases hh;exact⟨rfl,by simp,by simp,by simp only;omega,by simp⟩
  ·split at hh;·cases hh;exact⟨rfl,by simp,by simp,by simp,by simp⟩
   split at hh;·cases hh
   ·cases hh;have:=ID (0:Int) s;exact⟨rfl,by simp,by simp,by show(vP ((0:Nat):Int) s).length≤_;simp only[Int.natCast_zero] at*;omega,by simp⟩
end Go.Proofs.YtmgmclkplepapaaGreatDoor
