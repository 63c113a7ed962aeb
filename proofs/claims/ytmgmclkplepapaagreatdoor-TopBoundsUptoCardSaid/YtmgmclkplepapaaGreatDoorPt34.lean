/- Part of the proof of TopBoundsUptoCardSaid. Conditions: none beyond the statement. -/
import Derived.Test.YtmgmclkplepapaaGreatDoorPt33
set_option linter.all false
set_option maxRecDepth 100000
set_option maxHeartbeats 64000000
namespace Go.Proofs.YtmgmclkplepapaaGreatDoor
open Go.RowKit
def J0:Cg where
 enc:=pO
 aV:=fun s=>aV (aA s)
 TX:=jN
 normal:=jO
 AK:=pI
 iH:=fun s l=>(lS (aA s) (l.map aA)).map (·.data.toList)
 dU:=fun s out t=>Ek bX (jT (aA s)) out (dU (aV (aA s)) t)
 Hm:=oW
 Ai:=oZ
 uR:=nR
 itoa:=Lib.decDigits
def wO (a:AJ):Array Value:=(Value.string (aA a.user):: .string (aA a.pass)::((Value.int .i64 (a.host.kind:Int):: .string (aA a.host.name):: .int .u32 (a.host.four:Int)::a.host.six.map eY)++[.bool a.hasPort,.int .i64 (a.port:Int)])).toArray
def Bz (o:Option AJ):Value:=match o with
 |none=> .tuple #[.agg (wO {}),.bool false]
 |some a=> .tuple #[.agg (wO a),.bool true]
theorem vK (w:World) (uY:Value):(Instr.alloc 166 true uY).run Tryz.prog w= .ok (.pointer (some ⟨w.heap.size,0,none⟩)) (w.alloc (.cells (wO {}) 166)):=by kernel_rfl
theorem BA (w:World):(Instr.build 166 #[]).run Tryz.prog w= .ok (.agg (wO {})) w:=by kernel_rfl
theorem UH (q:UInt8) (s:List UInt8):(Ep q s).1=(bM q s).1∧(Ep q s).2=(bM q s).2.1:=by
 by_cases h:q∈s;·obtain⟨a,r,rfl,ha⟩:=vF h;obtain⟨h1,h2⟩:=BV (r:=r) ha;rw[MO ha];unfold Ep;rw[h1,h2];exact⟨rfl,rfl⟩
 ·have h1:∀l:List UInt8,q∉l→l.takeWhile (· !=q)=l∧l.dropWhile (· !=q)=[]:=by
   intro l;induction l with
   |nil=>intro _;exact⟨rfl,rfl⟩
   |cons c t ih=>intro h;have hc:c≠q:=fun e=>h (by rw[e];simp);obtain⟨i1,i2⟩:=ih (fun e=>h (by simp[e]));simp[List.takeWhile_cons,List.dropWhile_cons,hc,i1,i2]
  obtain⟨i1,i2⟩:=h1 s h;rw[IZ h];unfold Ep;rw[i1,i2];exact⟨rfl,rfl⟩
theorem Ls:∀(s:List UInt8) (b:Bool) {k:Nat},kK b s=some k→k < s.length:=by
 intro s;induction s with
 |nil=>intro b k h;cases h
 |cons c t ih=>
  intro b k h;rw[FP] at h;split at h;·cases h;simp
  ·obtain⟨j,hj,rfl⟩:=Option.map_eq_some_iff.1 h;have:=ih _ hj;rw[List.length_cons];omega
theorem He {l:List UInt8} {k:Nat} (h:k < l.length):l.take (k+1)≠[]:=by
 intro e;have h2:0=min (k+1) l.length:=by rw[←List.length_take,e];rfl
 omega
theorem bB (w:World):Below w.heap.size w w.drew:=(Below.refl _ _).drew
section
variable {sch r us ps:List UInt8}
theorem Jo (h:kK false r=some 0):dX J0 sch us ps r=none:=by unfold dX;rw[h]
theorem Jp (h:kK false r=none) (hh:oW r (aV (aA sch))=none):dX J0 sch us ps r=none:=by unfold dX;rw[h];simp only[J0,hh]
theorem F4 (h:kK false r=none) {x:lK} (hh:oW r (aV (aA sch))=some x) (hp:nR sch []=none):dX J0 sch us ps r=none:=by unfold dX;rw[h];simp only[J0,hh,hp]
theorem F5 (h:kK false r=none) {x:lK} (hh:oW r (aV (aA sch))=some x) {has:Bool} {n:Nat} (hp:nR sch []=some (has,n)):dX J0 sch us ps r=some ⟨us,ps,x,has,n⟩:=by unfold dX;rw[h];simp only[J0,hh,hp]
theorem Jq {k:Nat} (h:kK false r=some (k+1)) (hh:oW (r.take (k+1)) (aV (aA sch))=none):dX J0 sch us ps r=none:=by unfold dX;rw[h];simp only[J0,hh]
theorem F6 {k:Nat} (h:kK false r=some (k+1)) {x:lK} (hh:oW (r.take (k+1)) (aV (aA sch))=some x) (hp:nR sch (r.drop (k+2))=none):dX J0 sch us ps r=none:=by unfold dX;rw[h];simp only[J0,hh,hp]
theorem F7 {k:Nat} (h:kK false r=some (k+1)) {x:lK} (hh:oW (r.take (k+1)) (aV (aA sch))=some x) {has:Bool} {n:Nat} (hp:nR sch (r.drop (k+2))=some (has,n)):dX J0 sch us ps r=some ⟨us,ps,x,has,n⟩:=by unfold dX;rw[h];simp only[J0,hh,hp]
end
theorem M9 (sch s:List UInt8) (JU:lC 64 s=none) (hs:s.length≤5000000) (w:World) (hW:Laid w):Calls Tryz.prog 142 #[.string (aA sch),.string (aA s)] w fun e w'=>e= .returned (Bz (fI J0 sch s))∧Below w.heap.size w w':=by
 have HW:=hid hW;have HLa:=hid (fun W=>qR s 64 (by omega) W);have HT:Hid (fI J0 sch s=dX J0 sch [] [] s):=hid (by unfold fI;rw[JU]);have HL:=hid hs;simp only[Bl,JU] at HLa;clear hW JU;have ZT:=hid (fun W=>IN s (by have:=HL.out;first|omega|(simp<;>omega)) W);have HS:=hid (fun W=>jS (aA sch) W);rcases oO:kK false s with _|k;rw[oO] at ZT;simp only[Y5] at ZT;rcases hh:oW s (aV (aA sch)) with _|h;have HF:Hid (fI J0 sch s=none):=hid (by rw[HT.out];exact Jp oO hh);have HH:=hid (fun W hW=>mS s (aV (aA sch)) (by have:=HL.out;first|omega|(simp<;>omega)) W hW);rw[hh] at HH;simp only[iT,cL,eY,List.map] at HH;clear HT oO hh;have tg:=Tg.k 0;rotate_left;have qK:=(qW (by have:=HL.out;first|omega|(simp<;>omega)) hh).six;obtain⟨hk,hn,hf,hs6⟩:=h;obtain⟨x0,x1,x2,x3,x4,x5,x6,x7,rfl⟩:=eight qK;have HH:=hid (fun W hW=>mS s (aV (aA sch)) (by have:=HL.out;first|omega|(simp<;>omega)) W hW);have Kx:=hid (fun W (_:Laid W)=>BX sch [] (by have:=HL.out;first|omega|(simp<;>omega)) W);rw[hh] at HH;simp only[iT,cL,eY,List.map] at HH;rcases hp:nR sch [] with _|z;have HF:Hid (fI J0 sch s=none):=hid (by rw[HT.out];exact F4 oO hh hp);rw[hp] at Kx;simp only[DK] at Kx;clear HT oO hh qK hp;have tg:=Tg.k 1;rotate_left;obtain⟨has,n⟩:=z;have HF:Hid (fI J0 sch s=some ⟨[],[],⟨hk,hn,hf,[x0,x1,x2,x3,x4,x5,x6,x7]⟩,has,n⟩):=hid (by rw[HT.out];exact F5 oO hh hp);rw[hp] at Kx;simp only[DK] at Kx;clear HT oO hh qK hp;have tg:=Tg.k 2;rotate_left;rw[oO] at ZT;simp only[Y5] at ZT;have mE:=Ls _ _ oO;rcases k with _|k;have HF:Hid (fI J0 sch s=none):=hid (by rw[HT.out];exact Jo oO);have aB:=jX s 0;have JN:=cX s 1;have iW:=aD s;have jZ:0+1≤(aA s).size:=by omega
 have adR:1≤(aA s).size:=by omega
 have hz:((aA []).toList==[])=true:=by rw[ByteArray.toList_eq,aC];rfl
 have qL:(aA []).toList.isEmpty=true:=by rw[ByteArray.toList_eq,aC];rfl
 rw[List.take_zero] at aB;have Kg:=hid iW;clear HT oO iW;have tg:=Tg.k 3;rotate_left;have aB:=jX s (k+1);have JN:=cX s (k+2);have iW:=aD s;have jZ:k+1+1≤(aA s).size:=by omega
 have adR:k+1≤(aA s).size:=by omega
 have MF:k+2≤(aA s).size:=by omega
 have vC:(aA s).size≤5000000:=by have h:=HL.out;first|omega|(simp at h;omega)
 have eG:((aA (s.take (k+1))).toList==[])=false:=by rw[ByteArray.toList_eq,aC];exact beq_eq_false_iff_ne.mpr (He (by omega))
 have GF:(aA (s.take (k+1))).toList.isEmpty=false:=mN (He (by omega));clear iW;rcases hh:oW (s.take (k+1)) (aV (aA sch)) with _|h;have HF:Hid (fI J0 sch s=none):=hid (by rw[HT.out];exact Jq oO hh);have HH:=hid (fun W hW=>mS (s.take (k+1)) (aV (aA sch)) (by have:=HL.out;first|omega|(simp<;>omega)) W hW);rw[hh] at HH;simp only[iT,cL,eY,List.map] at HH;clear HT oO hh;have tg:=Tg.k 4;rotate_left;have qK:=(qW (by have:=HL.out;first|omega|(simp<;>omega)) hh).six;obtain⟨hk,hn,hf,hs6⟩:=h;obtain⟨x0,x1,x2,x3,x4,x5,x6,x7,rfl⟩:=eight qK;have HH:=hid (fun W hW=>mS (s.take (k+1)) (aV (aA sch)) (by have:=HL.out;first|omega|(simp<;>omega)) W hW);have Kx:=hid (fun W (_:Laid W)=>BX sch (s.drop (k+2)) (by have:=HL.out;first|omega|(simp<;>omega)) W);rw[hh] at HH;simp only[iT,cL,eY,List.map] at HH;rcases hp:nR sch (s.drop (k+2)) with _|z;have HF:Hid (fI J0 sch s=none):=hid (by rw[HT.out];exact F6 oO hh hp);rw[hp] at Kx;simp only[DK] at Kx;clear HT oO hh qK hp;have tg:=Tg.k 5;rotate_left;obtain⟨has,n⟩:=z;have HF:Hid (fI J0 sch s=some ⟨[],[],⟨hk,hn,hf,[x0,x1,x2,x3,x4,x5,x6,x7]⟩,has,n⟩):=hid (by rw[HT.out];exact F7 oO hh hp);rw[hp] at Kx;simp only[DK] at Kx;clear HT oO hh qK hp;have tg:=Tg.k 6;all_goals
  go_enter Tryz.func142,Tryz.ntmps142;go_wp2_with (first|(refine eX (d:=4) rfl (vK _) ?_;intro gA w1 aL hA)|(refine eX (d:=6) rfl (vK _) ?_;intro gB w2 aJ hB));obtain⟨Fc,xI,Fe⟩:=hA.out;obtain⟨Ff,rR,GN⟩:=hB.out;have yI:gA≠gB:=by omega
  have Fg:w.heap.size≤gB:=by omega
  have Aa:w.heap.size≤gA:=by omega
  have HB:=hid (xI.trans (rR.mono (by omega)));replace aL:=aL.below rR;clear xI rR Fc Ff Fe GN hA hB;simp only[wO,cL,eY,List.map,List.cons_append,List.nil_append] at aL aJ;refine(HLa.out _).mono ?_;rintro e w' ⟨rfl,rfl⟩;go_wp2_with fail;refine(ZT.out _).mono ?_;rintro e w' ⟨rfl,rfl⟩;go_wp2_with fail;first
  |have:Tg 3:=tg;go_region;replace aL:=aL.below (bB _);replace aJ:=aJ.below (bB _);replace HB:=hid (HB.out.trans ((bB _).mono HB.out.size))
  |(first|have:Tg 0:=tg|have:Tg 4:=tg)
   first
   |have:Tg 4:=tg;go_region;replace aL:=aL.below (bB _);replace aJ:=aJ.below (bB _);replace HB:=hid (HB.out.trans ((bB _).mono HB.out.size));go_wp2_with fail
   |skip
   refine(HS.out _).mono ?_;rintro e w' ⟨rfl,rfl⟩;go_wp2_with fail;refine(HH.out _ (HW.out.below HB.out HW.out.size)).mono ?_;rintro e w4 ⟨rfl,cG⟩;replace aL:=aL.below cG;replace aJ:=aJ.below cG;replace HB:=aR HB cG;clear cG
  |first
   |(first|have:Tg 5:=tg|have:Tg 6:=tg)
    go_region;replace aL:=aL.below (bB _);replace aJ:=aJ.below (bB _);replace HB:=hid (HB.out.trans ((bB _).mono HB.out.size));go_wp2_with fail
   |skip
   refine(HS.out _).mono ?_;rintro e w' ⟨rfl,rfl⟩;go_wp2_with fail;refine(HH.out _ (HW.out.below HB.out HW.out.size)).mono ?_;rintro e w4 ⟨rfl,cG⟩;replace aL:=aL.below cG;replace aJ:=aJ.below cG;replace HB:=aR HB cG;clear cG;go_wp2_with (first|(refine eX rfl (mQ _) ?_;intro gH w2 Ta hH;have l1:=aL.lt;have l2:=aJ.lt;have g0:=hH.out.1;have hAH:gA≠gH:=(by omega);have hBH:gB≠gH:=(by omega);have hwH:w.heap.size≤gH:=(by have:=HB.out.size;omega);clear l1 l2 g0;replace aL:=aL.below hH.out.2.1;replace aJ:=aJ.below hH.out.2.1;replace HB:=aR HB hH.out.2.1;clear hH)|(refine lV rfl Ta rfl (by kernel_rfl) ?_;intro w1 aH aB;replace aL:=aL.other aB hAH;replace aJ:=aJ.other aB hBH;replace HB:=bU HB aB.1 hwH;replace Ta:=aH;clear aB aH)|(refine fF rfl Ta R32 rfl rfl ?_;clear Ta hAH hBH hwH)|(refine eV rfl 32 _ _ rfl gB 2 _ rfl rfl aJ rfl (by kernel_rfl) (by kernel_rfl) ?_;intro w1 aH aB;replace aL:=aL.other aB yI;replace HB:=bU HB aB.1 Fg;replace aJ:=aH;clear aB aH;simp[putAt,Act.eval] at aJ));refine(Kx.out _ (HW.out.below HB.out HW.out.size)).mono ?_;rintro e w5 ⟨rfl,rfl⟩
  go_wp2_with (first|(refine eX rfl (mQ _) ?_;intro gH w2 Ta hH;have l1:=aL.lt;have l2:=aJ.lt;have g0:=hH.out.1;have hAH:gA≠gH:=(by omega);have hBH:gB≠gH:=(by omega);have hwH:w.heap.size≤gH:=(by have:=HB.out.size;omega);clear l1 l2 g0;replace aL:=aL.below hH.out.2.1;replace aJ:=aJ.below hH.out.2.1;replace HB:=aR HB hH.out.2.1;clear hH)|(refine lV rfl Ta rfl (by kernel_rfl) ?_;intro w1 aH aB;replace aL:=aL.other aB hAH;replace aJ:=aJ.other aB hBH;replace HB:=bU HB aB.1 hwH;replace Ta:=aH;clear aB aH)|(refine aG rfl 166 _ rfl _ _ (BA _) ?_)|(refine lV rfl aL rfl (by kernel_rfl) ?_;intro w1 aH aB;replace HB:=bU HB aB.1 Aa;replace aL:=aH;clear aB aH)|(refine oU _ rfl aJ rfl (by kernel_rfl) ?_;intro w1 aH aB;replace aL:=aL.other aB yI;replace HB:=bU HB aB.1 Fg;replace aJ:=aH;clear aB aH;simp[Act.eval] at aJ)|(refine fF rfl aJ akL rfl rfl ?_));refine dF rfl _ rfl rfl aL Tryz.underlying166 rfl (by kernel_rfl) rfl ?_;exact⟨by rw[HF.out];rfl,HB.out⟩
theorem P8 {sch s:List UInt8} {k:Nat} (h:lC 64 s=some k):fI J0 sch s=if s.drop (k+1)=[] then none else dX J0 sch (pO 5 (bM 58 (s.take k)).1) (pO 5 (bM 58 (s.take k)).2.1) (s.drop (k+1)):=by unfold fI;rw[h];show(if s.drop (k+1)=[] then none else dX J0 sch (pO 5 (Ep 58 (s.take k)).1) (pO 5 (Ep 58 (s.take k)).2) (s.drop (k+1)))=_;rw[(UH 58 _).1,(UH 58 _).2]
theorem Na (sch s:List UInt8) (k:Nat) (JU:lC 64 s=some k) (hs:s.length≤5000000) (w:World) (hW:Laid w):Calls Tryz.prog 142 #[.string (aA sch),.string (aA s)] w fun e w'=>e= .returned (Bz (fI J0 sch s))∧Below w.heap.size w w':=by
 have HW:=hid hW;have HLa:=hid (fun W=>qR s 64 (by omega) W);have HT0:=hid (P8 (sch:=sch) JU);have mE:=BU JU;simp only[Bl,JU] at HLa;have As:(s.take k).length≤s.length:=by simp;omega
 have UC:(s.drop (k+1)).length≤s.length:=by simp
 have HC1:=hid (fun W hW=>oH (s.take k) 58 (by omega) W hW);have hc:=uN 58 (s.take k);have aB:=jX s k;have JN:=cX s (k+1);have iW:=aD s;have jZ:k+1≤(aA s).size:=by omega
 have adR:k≤(aA s).size:=by omega
 have vC:(aA s).size≤5000000:=by omega
 generalize bM 58 (s.take k)=z at*;obtain⟨uu,pp,mm⟩:=z;simp only at HT0 HC1 hc;have CQ:=hid (fun W (_:Laid W)=>oJ uu 5 5 rfl W (by omega));have HE2:=hid (fun W (_:Laid W)=>oJ pp 5 5 rfl W (by omega));have HL:Hid ((s.drop (k+1)).length≤5000000):=hid (by omega);generalize pO 5 uu=us at*;generalize pO 5 pp=ps at*;generalize s.take k=s1 at*;generalize s.drop (k+1)=r at*;clear hW JU hc As UC iW mE;by_cases h0:r=[];subst h0;have HF:Hid (fI J0 sch s=none):=hid (by rw[HT0.out,if_pos rfl]);have hz:((aA []).toList==[])=true:=by rw[ByteArray.toList_eq,aC];rfl
 have qL:(aA []).toList.isEmpty=true:=by rw[ByteArray.toList_eq,aC];rfl
 clear HT0;have tg:=Tg.k 0;rotate_left;have HT:Hid (fI J0 sch s=dX J0 sch us ps r):=hid (by rw[HT0.out,if_neg h0]);have aqJ:=mN h0;have apI:((aA r).toList==[])=false:=by rw[ByteArray.toList_eq,aC];exact beq_eq_false_iff_ne.mpr h0
 clear HT0 h0;have ZT:=hid (fun W=>IN r (by have:=HL.out;first|omega|(simp<;>omega)) W);have HS:=hid (fun W=>jS (aA sch) W);rcases oO:kK false r with _|k;rw[oO] at ZT;simp only[Y5] at ZT;rcases hh:oW r (aV (aA sch)) with _|h;have HF:Hid (fI J0 sch s=none):=hid (by rw[HT.out];exact Jp oO hh);have HH:=hid (fun W hW=>mS r (aV (aA sch)) (by have:=HL.out;first|omega|(simp<;>omega)) W hW);rw[hh] at HH;simp only[iT,cL,eY,List.map] at HH;clear HT oO hh;have tg:=Tg.k 1;rotate_left;have qK:=(qW (by have:=HL.out;first|omega|(simp<;>omega)) hh).six;obtain⟨hk,hn,hf,hs6⟩:=h;obtain⟨x0,x1,x2,x3,x4,x5,x6,x7,rfl⟩:=eight qK;have HH:=hid (fun W hW=>mS r (aV (aA sch)) (by have:=HL.out;first|omega|(simp<;>omega)) W hW);have Kx:=hid (fun W (_:Laid W)=>BX sch [] (by have:=HL.out;first|omega|(simp<;>omega)) W);rw[hh] at HH;simp only[iT,cL,eY,List.map] at HH;rcases hp:nR sch [] with _|z;have HF:Hid (fI J0 sch s=none):=hid (by rw[HT.out];exact F4 oO hh hp);rw[hp] at Kx;simp only[DK] at Kx;clear HT oO hh qK hp;have tg:=Tg.k 2;rotate_left;obtain⟨has,n⟩:=z;have HF:Hid (fI J0 sch s=some ⟨us,ps,⟨hk,hn,hf,[x0,x1,x2,x3,x4,x5,x6,x7]⟩,has,n⟩):=hid (by rw[HT.out];exact F5 oO hh hp);rw[hp] at Kx;simp only[DK] at Kx;clear HT oO hh qK hp;have tg:=Tg.k 3;rotate_left;rw[oO] at ZT;simp only[Y5] at ZT;have mE:=Ls _ _ oO;rcases k with _|k;have HF:Hid (fI J0 sch s=none):=hid (by rw[HT.out];exact Jo oO);have aB:=jX r 0;have JN:=cX r 1;have iW:=aD r;have jZ:0+1≤(aA r).size:=by omega
 have adR:1≤(aA r).size:=by omega
 have hz:((aA []).toList==[])=true:=by rw[ByteArray.toList_eq,aC];rfl
 have qL:(aA []).toList.isEmpty=true:=by rw[ByteArray.toList_eq,aC];rfl
 rw[List.take_zero] at aB;have Kg:=hid iW;clear HT oO iW;have tg:=Tg.k 4;rotate_left;have aB:=jX r (k+1);have JN:=cX r (k+2);have iW:=aD r;have jZ:k+1+1≤(aA r).size:=by omega
 have adR:k+1≤(aA r).size:=by omega
 have MF:k+2≤(aA r).size:=by omega
 have vC:(aA r).size≤5000000:=by have h:=HL.out;first|omega|(simp at h;omega)
 have eG:((aA (r.take (k+1))).toList==[])=false:=by rw[ByteArray.toList_eq,aC];exact beq_eq_false_iff_ne.mpr (He (by omega))
 have GF:(aA (r.take (k+1))).toList.isEmpty=false:=mN (He (by omega));clear iW;rcases hh:oW (r.take (k+1)) (aV (aA sch)) with _|h;have HF:Hid (fI J0 sch s=none):=hid (by rw[HT.out];exact Jq oO hh);have HH:=hid (fun W hW=>mS (r.take (k+1)) (aV (aA sch)) (by have:=HL.out;first|omega|(simp<;>omega)) W hW);rw[hh] at HH;simp only[iT,cL,eY,List.map] at HH;clear HT oO hh;have tg:=Tg.k 5;rotate_left;have qK:=(qW (by have:=HL.out;first|omega|(simp<;>omega)) hh).six;obtain⟨hk,hn,hf,hs6⟩:=h;obtain⟨x0,x1,x2,x3,x4,x5,x6,x7,rfl⟩:=eight qK;have HH:=hid (fun W hW=>mS (r.take (k+1)) (aV (aA sch)) (by have:=HL.out;first|omega|(simp<;>omega)) W hW);have Kx:=hid (fun W (_:Laid W)=>BX sch (r.drop (k+2)) (by have:=HL.out;first|omega|(simp<;>omega)) W);rw[hh] at HH;simp only[iT,cL,eY,List.map] at HH;rcases hp:nR sch (r.drop (k+2)) with _|z;have HF:Hid (fI J0 sch s=none):=hid (by rw[HT.out];exact F6 oO hh hp);rw[hp] at Kx;simp only[DK] at Kx;clear HT oO hh qK hp;have tg:=Tg.k 6;rotate_left;obtain⟨has,n⟩:=z;have HF:Hid (fI J0 sch s=some ⟨us,ps,⟨hk,hn,hf,[x0,x1,x2,x3,x4,x5,x6,x7]⟩,has,n⟩):=hid (by rw[HT.out];exact F7 oO hh hp);rw[hp] at Kx;simp only[DK] at Kx;clear HT oO hh qK hp;have tg:=Tg.k 7;all_goals
  go_enter Tryz.func142,Tryz.ntmps142;go_wp2_with (first|(refine eX (d:=4) rfl (vK _) ?_;intro gA w1 aL hA)|(refine eX (d:=6) rfl (vK _) ?_;intro gB w2 aJ hB));obtain⟨Fc,xI,Fe⟩:=hA.out;obtain⟨Ff,rR,GN⟩:=hB.out;have yI:gA≠gB:=by omega
  have Fg:w.heap.size≤gB:=by omega
  have Aa:w.heap.size≤gA:=by omega
  have HB:=hid (xI.trans (rR.mono (by omega)));replace aL:=aL.below rR;clear xI rR Fc Ff Fe GN hA hB;simp only[wO,cL,eY,List.map,List.cons_append,List.nil_append] at aL aJ;refine(HLa.out _).mono ?_;rintro e w' ⟨rfl,rfl⟩;go_wp2_with fail;refine(HC1.out _ (HW.out.below HB.out HW.out.size)).mono ?_;rintro e w4 ⟨rfl,cG⟩;replace aL:=aL.below cG;replace aJ:=aJ.below cG;replace HB:=aR HB cG;clear cG;go_wp2_with fail;refine(CQ.out _ (HW.out.below HB.out HW.out.size)).mono ?_;rintro e w5 ⟨rfl,aM⟩;replace aL:=aL.below aM;replace aJ:=aJ.below aM;replace HB:=aR HB aM;clear aM;go_wp2_with (first|(refine oU _ rfl aJ rfl (by kernel_rfl) ?_;intro w1 aH aB;replace aL:=aL.other aB yI;replace HB:=bU HB aB.1 Fg;replace aJ:=aH;clear aB aH;simp[Act.eval] at aJ));refine(HE2.out _ (HW.out.below HB.out HW.out.size)).mono ?_;rintro e w6 ⟨rfl,fH⟩;replace aL:=aL.below fH;replace aJ:=aJ.below fH;replace HB:=aR HB fH;clear fH;go_wp2_with (first|(refine oU _ rfl aJ rfl (by kernel_rfl) ?_;intro w1 aH aB;replace aL:=aL.other aB yI;replace HB:=bU HB aB.1 Fg;replace aJ:=aH;clear aB aH;simp[Act.eval] at aJ)|(refine aG rfl 166 _ rfl _ _ (BA _) ?_)|(refine lV rfl aL rfl (by kernel_rfl) ?_;intro w1 aH aB;replace HB:=bU HB aB.1 Aa;replace aL:=aH;clear aB aH));first
  |have:Tg 0:=tg
  |refine(ZT.out _).mono ?_;rintro e w' ⟨rfl,rfl⟩;go_wp2_with fail;first
   |have:Tg 4:=tg;go_region;replace aL:=aL.below (bB _);replace aJ:=aJ.below (bB _);replace HB:=hid (HB.out.trans ((bB _).mono HB.out.size))
   |(first|have:Tg 1:=tg|have:Tg 5:=tg)
    first
    |have:Tg 5:=tg;go_region;replace aL:=aL.below (bB _);replace aJ:=aJ.below (bB _);replace HB:=hid (HB.out.trans ((bB _).mono HB.out.size));go_wp2_with fail
    |skip
    refine(HS.out _).mono ?_;rintro e w' ⟨rfl,rfl⟩;go_wp2_with fail;refine(HH.out _ (HW.out.below HB.out HW.out.size)).mono ?_;rintro e w4 ⟨rfl,cG⟩;replace aL:=aL.below cG;replace aJ:=aJ.below cG;replace HB:=aR HB cG;clear cG
   |first
    |(first|have:Tg 6:=tg|have:Tg 7:=tg)
     go_region;replace aL:=aL.below (bB _);replace aJ:=aJ.below (bB _);replace HB:=hid (HB.out.trans ((bB _).mono HB.out.size));go_wp2_with fail
    |skip
    refine(HS.out _).mono ?_;rintro e w' ⟨rfl,rfl⟩;go_wp2_with fail;refine(HH.out _ (HW.out.below HB.out HW.out.size)).mono ?_;rintro e w4 ⟨rfl,cG⟩;replace aL:=aL.below cG;replace aJ:=aJ.below cG;replace HB:=aR HB cG;clear cG;go_wp2_with (first|(refine eX rfl (mQ _) ?_;intro gH w2 Ta hH;have l1:=aL.lt;have l2:=aJ.lt;have g0:=hH.out.1;have hAH:gA≠gH:=(by omega);have hBH:gB≠gH:=(by omega);have hwH:w.heap.size≤gH:=(by have:=HB.out.size;omega);clear l1 l2 g0;replace aL:=aL.below hH.out.2.1;replace aJ:=aJ.below hH.out.2.1;replace HB:=aR HB hH.out.2.1;clear hH)|(refine lV rfl Ta rfl (by kernel_rfl) ?_;intro w1 aH aB;replace aL:=aL.other aB hAH;replace aJ:=aJ.other aB hBH;replace HB:=bU HB aB.1 hwH;replace Ta:=aH;clear aB aH)|(refine fF rfl Ta R32 rfl rfl ?_;clear Ta hAH hBH hwH)|(refine eV rfl 32 _ _ rfl gB 2 _ rfl rfl aJ rfl (by kernel_rfl) (by kernel_rfl) ?_;intro w1 aH aB;replace aL:=aL.other aB yI;replace HB:=bU HB aB.1 Fg;replace aJ:=aH;clear aB aH;simp[putAt,Act.eval] at aJ));refine(Kx.out _ (HW.out.below HB.out HW.out.size)).mono ?_;rintro e w5 ⟨rfl,rfl⟩
   go_wp2_with (first|(refine eX rfl (mQ _) ?_;intro gH w2 Ta hH;have l1:=aL.lt;have l2:=aJ.lt;have g0:=hH.out.1;have hAH:gA≠gH:=(by omega);have hBH:gB≠gH:=(by omega);have hwH:w.heap.size≤gH:=(by have:=HB.out.size;omega);clear l1 l2 g0;replace aL:=aL.below hH.out.2.1;replace aJ:=aJ.below hH.out.2.1;replace HB:=aR HB hH.out.2.1;clear hH)|(refine lV rfl Ta rfl (by kernel_rfl) ?_;intro w1 aH aB;replace aL:=aL.other aB hAH;replace aJ:=aJ.other aB hBH;replace HB:=bU HB aB.1 hwH;replace Ta:=aH;clear aB aH)|(refine aG rfl 166 _ rfl _ _ (BA _) ?_)|(refine lV rfl aL rfl (by kernel_rfl) ?_;intro w1 aH aB;replace HB:=bU HB aB.1 Aa;replace aL:=aH;clear aB aH)|(refine oU _ rfl aJ rfl (by kernel_rfl) ?_;intro w1 aH aB;replace aL:=aL.other aB yI;replace HB:=bU HB aB.1 Fg;replace aJ:=aH;clear aB aH;simp[Act.eval] at aJ)|(refine fF rfl aJ akL rfl rfl ?_))
  refine dF rfl _ rfl rfl aL Tryz.underlying166 rfl (by kernel_rfl) rfl ?_;exact⟨by rw[HF.out];rfl,HB.out⟩
theorem Tb (sch s:List UInt8) (hs:s.length≤5000000) (w:World) (hW:Laid w):Calls Tryz.prog 142 #[.string (aA sch),.string (aA s)] w fun e w'=>e= .returned (Bz (fI J0 sch s))∧Below w.heap.size w w':=by
 cases h:lC 64 s with
 |none=>exact M9 sch s h hs w hW
 |some k=>exact Na sch s k h hs w hW
end Go.Proofs.YtmgmclkplepapaaGreatDoor
