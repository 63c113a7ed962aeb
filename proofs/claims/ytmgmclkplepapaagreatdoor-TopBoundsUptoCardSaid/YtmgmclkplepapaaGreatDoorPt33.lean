/- Part of the proof of TopBoundsUptoCardSaid. Conditions: none beyond the statement. -/
import Derived.Test.YtmgmclkplepapaaGreatDoorPt32
set_option linter.all false
set_option maxRecDepth 100000
set_option maxHeartbeats 64000000
namespace Go.Proofs.YtmgmclkplepapaaGreatDoor
open Go.RowKit
def pN (k:Nat) (l:List UInt8):List UInt8:=vO (k:Int) l
def oV (s:List UInt8) (sp:Bool):Option lJ:=T8 nL fQ pN s sp
theorem Jl (t:List UInt8) (sp:Bool):oV (91::t) sp=sX t:=rfl
theorem Jm {s:List UInt8} (h:([91].isPrefixOf s)=false) (sp:Bool):oV s sp=if sp then nJ nL fQ s
 else if s=[] then some {kind:=1} else if s.any Eu then none else some {kind:=5,name:=pN 0 s}:=by
 unfold oV T8;split;·rename_i t;exact absurd h (by simp)
 ·rfl
theorem ZR:(⟨#[91]⟩:ByteArray)=aA [91]:=rfl
theorem oI (l:List UInt8) (set:Nat) (n:Int) (hn:n=(set:Int)) (w:World) (hs:l.length≤1000000000):Calls Tryz.prog 140 #[.string (aA l),.int .i64 n] w fun e w'=>e= .returned (.string (aA (pN set l)))∧Below w.heap.size w w':=by subst hn;refine(DF (aA l) (set:Int) w (by rw[aD];exact hs)).mono ?_;rintro e w' ⟨h1,h2⟩;rw[aC] at h1;exact⟨h1,h2⟩
theorem mR (s:List UInt8) (sp:Bool) (hs:s.length≤5000000) (w:World) (hW:Laid w):Calls Tryz.prog 176 #[.string (aA s),.bool sp] w fun e w'=>e= .returned (iS (oV s sp))∧Below w.heap.size w w':=by
 have HW:=hid hW;have HX:=hid (fun W=>jT s [91] W);clear hW;by_cases hp:([91].isPrefixOf s)=true;have ht:∃t,s=91::t:=by
  cases s with
  |nil=>simp at hp
  |cons c t=>have:(91==c&&true)=true:=hp;rw[Bool.and_true,beq_iff_eq] at this;exact⟨t,by rw[this]⟩
 obtain⟨t,rfl⟩:=ht;rw[hp] at HX;have jA:=hid (Jl t sp);have Ar:t.length≤1000000000:=by simp at hs;omega
 have ID:=hid (fun W hW=>Jb t Ar W hW);obtain⟨eG,rK,hk,hg,he⟩:=wF t 91;clear hg eG rK hp;generalize aA (91::t)=x at*;rcases hb:sX t with _|z;rw[hb] at ID jA;have HF:=jA;simp only[iS,cL,eY,List.map] at ID;clear jA hb;have tg:=Tg.k 0;rotate_left;have hz:z.six.length=8:=by
  unfold sX at hb;split at hb;·obtain⟨a,ha,rfl⟩:=Option.map_eq_some_iff.1 hb;exact(Fh ha).1
  ·cases hb
 obtain⟨zk,zn,zf,zs⟩:=z;obtain⟨x0,x1,x2,x3,x4,x5,x6,x7,rfl⟩:=eight hz;rw[hb] at ID jA;have HF:=jA;simp only[iS,cL,eY,List.map] at ID;clear jA hb hz;have tg:=Tg.k 1;rotate_left;have JN:([91].isPrefixOf s)=false:=Bool.eq_false_iff.mpr hp;rw[JN] at HX;have HE:=hid (Jm JN sp);clear hp JN;cases sp;have HE2:Hid (oV s false=if s=[] then some {kind:=1} else if s.any Eu then none else some {kind:=5,name:=pN 0 s}):=hid HE.out;clear HE;by_cases h0:s=[];subst h0;have HF:=hid (HE2.out.trans (if_pos rfl));have hz:((aA []).toList==[])=true:=by rw[ByteArray.toList_eq,aC];rfl
 have qK:(aA []).toList.isEmpty=true:=by rw[ByteArray.toList_eq,aC];rfl
 clear HE2;have tg:=Tg.k 4;rotate_left;have HM:=hid (HE2.out.trans (if_neg h0));have eG:=mM h0;have GD:((aA s).toList==[])=false:=by rw[ByteArray.toList_eq,aC];exact beq_eq_false_iff_ne.mpr h0
 have HZ:=hid (aD s);have HEN:=hid (fun W (_:Laid W)=>oI s 0 0 rfl W (by omega));clear HE2 h0;have tg:=Tg.k 5;rotate_left;have jA:Hid (oV s true=nJ nL fQ s):=hid HE.out;have HM:=hid (fun W hW=>S8 s hs W hW);have HSX:∀h,nJ nL fQ s=some h→h.six=[0,0,0,0,0,0,0,0]:=by
  intro h hh;unfold nJ at hh;split at hh;·cases hh
  ·split at hh;·cases hh
   split at hh;·cases hh
   split at hh;·obtain⟨n,_,rfl⟩:=Option.map_eq_some_iff.1 hh;rfl
   ·cases hh;rfl
 clear HE;rcases hb:nJ nL fQ s with _|z;rw[hb] at HM jA;have HF:=jA;simp only[iS,cL,eY,List.map] at HM;clear jA hb HSX;have tg:=Tg.k 2;rotate_left;have hz:=HSX z hb;obtain⟨zk,zn,zf,zs⟩:=z;simp only at hz;subst hz;rw[hb] at HM jA;have HF:=jA;simp only[iS,cL,eY,List.map] at HM;clear jA hb HSX;have tg:=Tg.k 3;all_goals
  go_enter Tryz.func176,Tryz.ntmps176;go_wp2_with (refine eX rfl (mP _) ?_;intro gA w1 aL hA);obtain⟨Fb,xH,Fc⟩:=hA.out;have HB:=hid xH;have zZ:w.heap.size≤gA:=by omega
  clear Fb xH Fc hA;rw[ZR];refine(HX.out _).mono ?_;rintro e w' ⟨rfl,rfl⟩;go_wp2_with (first|(refine aG rfl 32 _ rfl _ _ (P0 _) ?_)|(refine aG rfl 32 _ rfl _ _ (iT _) ?_)|(refine lU rfl aL rfl (by kernel_rfl) ?_;intro w1 aH aB;replace HB:=bU HB aB.1 zZ;replace aL:=aH;clear aB aH));first
  |have:Tg 5:=tg;go_loopw [24] (fun i wr=>∃k:Nat,i= .int .i64 (k:Int)∧k≤s.length∧Hid (s.any Eu=(s.drop k).any Eu)∧w1=wr) (fun i _=>s.length - (intOf i).toNat);case atStart=>exact⟨0,rfl,Nat.zero_le _,hid rfl,rfl⟩
   case round=>
    obtain⟨k,rfl,hk,hF,rfl⟩:=hrel;by_cases bC:k < s.length
    ·have jY:k < (aA s).size:=by rw[HZ.out];exact bC
     have hg:(aA s)[k]'jY=s[k]'bC:=jI s k jY;have aT:=hF.out;rw[P4 bC] at aT;have iE:(s[k]'bC).toNat < 256:=(s[k]'bC).toNat_lt;obtain⟨c,hc⟩:∃c,c=s[k]'bC:=⟨_,rfl⟩;rw[←hc] at hg aT iE;have ZQ:=hid (Ol c);generalize Eu c=b0 at*;clear hF hc;cases b0 with
     |true=>rw[Bool.true_or] at aT;have HF:Hid (oV s false=none):=hid (by rw[HM.out,if_pos aT]);clear aT;go_wp2_with fail;refine(ZQ.out _).mono ?_;rintro e w' ⟨rfl,rfl⟩;go_wp2_with (first|fail|(refine aG rfl 32 _ rfl _ _ (iT _) ?_)|(refine lU rfl aL rfl (by kernel_rfl) ?_;intro w1 aH aB;replace HB:=bU HB aB.1 zZ;replace aL:=aH;clear aB aH));refine dF rfl _ rfl rfl aL Tryz.underlying32 rfl (by kernel_rfl) rfl ?_;exact⟨by rw[HF.out];rfl,HB.out⟩
     |false=>
      rw[Bool.false_or] at aT;have HF:=hid aT;clear aT;go_wp2_with fail;refine(ZQ.out _).mono ?_;rintro e w' ⟨rfl,rfl⟩;go_wp2_with fail;go_roundw;case rel=>exact⟨k+1,by go_num,by omega,HF,trivial⟩
      case measure=>simp[intOf];omega
    ·obtain rfl:k=s.length:=by omega
     have HF:Hid (oV s false=some {kind:=5,name:=pN 0 s}):=hid (by rw[HM.out,if_neg (by rw[hF.out,List.drop_length];decide)]);have Bc:=HZ.out;clear hF HZ;go_wp2_with fail;refine(HEN.out _ (HW.out.below HB.out HW.out.size)).mono ?_;rintro e w4 ⟨rfl,cG⟩;replace aL:=aL.below cG;replace HB:=aR HB cG;clear cG;go_wp2_with (first|(refine aG rfl 32 _ rfl _ _ (P3 _ _) ?_)|(refine aG rfl 32 _ rfl _ _ (iT _) ?_)|(refine lU rfl aL rfl (by kernel_rfl) ?_;intro w1 aH aB;replace HB:=bU HB aB.1 zZ;replace aL:=aH;clear aB aH));refine dF rfl _ rfl rfl aL Tryz.underlying32 rfl (by kernel_rfl) rfl ?_;exact⟨by rw[HF.out];rfl,HB.out⟩
  |first
   |have:Tg 4:=tg
   |first
    |(first|have:Tg 0:=tg|have:Tg 1:=tg)
     refine(ID.out _ (HW.out.below HB.out HW.out.size)).mono ?_
    |refine(HM.out _ (HW.out.below HB.out HW.out.size)).mono ?_
    rintro e w4 ⟨rfl,cG⟩;replace aL:=aL.below cG;replace HB:=aR HB cG;clear cG;go_wp2_with (first|fail|(refine aG rfl 32 _ rfl _ _ (iT _) ?_)|(refine lU rfl aL rfl (by kernel_rfl) ?_;intro w1 aH aB;replace HB:=bU HB aB.1 zZ;replace aL:=aH;clear aB aH))
   refine dF rfl _ rfl rfl aL Tryz.underlying32 rfl (by kernel_rfl) rfl ?_;exact⟨by rw[HF.out];rfl,HB.out⟩
theorem qV {s:List UInt8} {sp:Bool} {h:lJ} (hs:s.length≤5000000) (hh:oV s sp=some h):nN h:=by
 by_cases hp:([91].isPrefixOf s)=true
 ·cases s with
  |nil=>simp at hp
  |cons c t=>
   have:(91==c&&true)=true:=hp;rw[Bool.and_true,beq_iff_eq] at this;subst this;rw[Jl] at hh;unfold sX at hh;split at hh;·obtain⟨a,ha,rfl⟩:=Option.map_eq_some_iff.1 hh;have h1:=Fh ha;exact⟨h1.1,h1.2,by simp,by simp,by simp⟩
   ·cases hh
 ·rw[Jm (Bool.eq_false_iff.mpr hp)] at hh;split at hh
  ·unfold nJ at hh;split at hh;·cases hh
   ·rename_i name hn;have h1:=BM hn;have h2:=AL name;have h3:=Bg s;unfold dL at h2;split at hh;·cases hh
    split at hh;·cases hh
    split at hh
    ·obtain⟨n,hn,rfl⟩:=Option.map_eq_some_iff.mp hh;refine⟨rfl,by simp,?_,by simp,by simp⟩;unfold mJ at hn;split at hn;·cases hn
     ·obtain⟨m,_,rfl⟩:=Option.map_eq_some_iff.mp hn;exact Nat.mod_lt _ (by decide)
    ·cases hh;exact⟨rfl,by simp,by simp,by simp only;omega,by simp⟩
  ·split at hh;·cases hh;exact⟨rfl,by simp,by simp,by simp,by simp⟩
   split at hh;·cases hh
   ·cases hh;have:=IC (0:Int) s;exact⟨rfl,by simp,by simp,by show(vO ((0:Nat):Int) s).length≤_;simp only[Int.natCast_zero] at*;omega,by simp⟩
end Go.Proofs.YtmgmclkplepapaaGreatDoor
