/- Part of the proof of TopBoundsUptoCardSaid. Conditions: none beyond the statement. -/
import Derived.Test.YtmgmclkplepapaaGreatDoorPt33
set_option linter.all false
set_option maxRecDepth 100000
set_option maxHeartbeats 64000000
namespace Go.Proofs.YtmgmclkplepapaaGreatDoor
open Go.RowKit
def J0:Cf where
 enc:=pN
 aV:=fun s=>aV (aA s)
 TW:=jM
 normal:=jN
 AJ:=pH
 iG:=fun s l=>(lR (aA s) (l.map aA)).map (·.data.toList)
 dU:=fun s out t=>Ej bX (jS (aA s)) out (dU (aV (aA s)) t)
 Hl:=oV
 Ah:=oY
 uQ:=nQ
 itoa:=Lib.decDigits
def wN (a:AH):Array Value:=(Value.string (aA a.user):: .string (aA a.pass)::((Value.int .i64 (a.host.kind:Int):: .string (aA a.host.name):: .int .u32 (a.host.four:Int)::a.host.six.map eY)++[.bool a.hasPort,.int .i64 (a.port:Int)])).toArray
def By (o:Option AH):Value:=match o with
 |none=> .tuple #[.agg (wN {}),.bool false]
 |some a=> .tuple #[.agg (wN a),.bool true]
theorem vJ (w:World) (uX:Value):(Instr.alloc 166 true uX).run Tryz.prog w= .ok (.pointer (some ⟨w.heap.size,0,none⟩)) (w.alloc (.cells (wN {}) 166)):=by kernel_rfl
theorem Bz (w:World):(Instr.build 166 #[]).run Tryz.prog w= .ok (.agg (wN {})) w:=by kernel_rfl
theorem UG (q:UInt8) (s:List UInt8):(Eo q s).1=(bM q s).1∧(Eo q s).2=(bM q s).2.1:=by
 by_cases h:q∈s;·obtain⟨a,r,rfl,ha⟩:=vE h;obtain⟨h1,h2⟩:=BU (r:=r) ha;rw[MN ha];unfold Eo;rw[h1,h2];exact⟨rfl,rfl⟩
 ·have h1:∀l:List UInt8,q∉l→l.takeWhile (· !=q)=l∧l.dropWhile (· !=q)=[]:=by
   intro l;induction l with
   |nil=>intro _;exact⟨rfl,rfl⟩
   |cons c t ih=>intro h;have hc:c≠q:=fun e=>h (by rw[e];simp);obtain⟨i1,i2⟩:=ih (fun e=>h (by simp[e]));simp[List.takeWhile_cons,List.dropWhile_cons,hc,i1,i2]
  obtain⟨i1,i2⟩:=h1 s h;rw[IY h];unfold Eo;rw[i1,i2];exact⟨rfl,rfl⟩
theorem Lr:∀(s:List UInt8) (b:Bool) {k:Nat},kJ b s=some k→k < s.length:=by
 intro s;induction s with
 |nil=>intro b k h;cases h
 |cons c t ih=>
  intro b k h;rw[FO] at h;split at h;·cases h;simp
  ·obtain⟨j,hj,rfl⟩:=Option.map_eq_some_iff.1 h;have:=ih _ hj;rw[List.length_cons];omega
theorem Hd {l:List UInt8} {k:Nat} (h:k < l.length):l.take (k+1)≠[]:=by
 intro e;have h2:0=min (k+1) l.length:=by rw[←List.length_take,e];rfl
 omega
theorem bB (w:World):Below w.heap.size w w.drew:=(Below.refl _ _).drew
section
variable {sch r us ps:List UInt8}
theorem Jn (h:kJ false r=some 0):dX J0 sch us ps r=none:=by unfold dX;rw[h]
theorem Jo (h:kJ false r=none) (hh:oV r (aV (aA sch))=none):dX J0 sch us ps r=none:=by unfold dX;rw[h];simp only[J0,hh]
theorem F3 (h:kJ false r=none) {x:lJ} (hh:oV r (aV (aA sch))=some x) (hp:nQ sch []=none):dX J0 sch us ps r=none:=by unfold dX;rw[h];simp only[J0,hh,hp]
theorem F4 (h:kJ false r=none) {x:lJ} (hh:oV r (aV (aA sch))=some x) {has:Bool} {n:Nat} (hp:nQ sch []=some (has,n)):dX J0 sch us ps r=some ⟨us,ps,x,has,n⟩:=by unfold dX;rw[h];simp only[J0,hh,hp]
theorem Jp {k:Nat} (h:kJ false r=some (k+1)) (hh:oV (r.take (k+1)) (aV (aA sch))=none):dX J0 sch us ps r=none:=by unfold dX;rw[h];simp only[J0,hh]
theorem F5 {k:Nat} (h:kJ false r=some (k+1)) {x:lJ} (hh:oV (r.take (k+1)) (aV (aA sch))=some x) (hp:nQ sch (r.drop (k+2))=none):dX J0 sch us ps r=none:=by unfold dX;rw[h];simp only[J0,hh,hp]
theorem F6 {k:Nat} (h:kJ false r=some (k+1)) {x:lJ} (hh:oV (r.take (k+1)) (aV (aA sch))=some x) {has:Bool} {n:Nat} (hp:nQ sch (r.drop (k+2))=some (has,n)):dX J0 sch us ps r=some ⟨us,ps,x,has,n⟩:=by unfold dX;rw[h];simp only[J0,hh,hp]
end
theorem M8 (sch s:List UInt8) (JT:lB 64 s=none) (hs:s.length≤5000000) (w:World) (hW:Laid w):Calls Tryz.prog 142 #[.string (aA sch),.string (aA s)] w fun e w'=>e= .returned (By (fI J0 sch s))∧Below w.heap.size w w':=by
 have HW:=hid hW;have HLa:=hid (fun W=>qQ s 64 (by omega) W);have HT:Hid (fI J0 sch s=dX J0 sch [] [] s):=hid (by unfold fI;rw[JT]);have HL:=hid hs;simp only[Bk,JT] at HLa;clear hW JT;have ZS:=hid (fun W=>IM s (by have:=HL.out;first|omega|(simp<;>omega)) W);have HS:=hid (fun W=>jR (aA sch) W);rcases oN:kJ false s with _|k;rw[oN] at ZS;simp only[Y4] at ZS;rcases hh:oV s (aV (aA sch)) with _|h;have HF:Hid (fI J0 sch s=none):=hid (by rw[HT.out];exact Jo oN hh);have HH:=hid (fun W hW=>mR s (aV (aA sch)) (by have:=HL.out;first|omega|(simp<;>omega)) W hW);rw[hh] at HH;simp only[iS,cL,eY,List.map] at HH;clear HT oN hh;have tg:=Tg.k 0;rotate_left;have qJ:=(qV (by have:=HL.out;first|omega|(simp<;>omega)) hh).six;obtain⟨hk,hn,hf,hs6⟩:=h;obtain⟨x0,x1,x2,x3,x4,x5,x6,x7,rfl⟩:=eight qJ;have HH:=hid (fun W hW=>mR s (aV (aA sch)) (by have:=HL.out;first|omega|(simp<;>omega)) W hW);have Kw:=hid (fun W (_:Laid W)=>BW sch [] (by have:=HL.out;first|omega|(simp<;>omega)) W);rw[hh] at HH;simp only[iS,cL,eY,List.map] at HH;rcases hp:nQ sch [] with _|z;have HF:Hid (fI J0 sch s=none):=hid (by rw[HT.out];exact F3 oN hh hp);rw[hp] at Kw;simp only[DJ] at Kw;clear HT oN hh qJ hp;have tg:=Tg.k 1;rotate_left;obtain⟨has,n⟩:=z;have HF:Hid (fI J0 sch s=some ⟨[],[],⟨hk,hn,hf,[x0,x1,x2,x3,x4,x5,x6,x7]⟩,has,n⟩):=hid (by rw[HT.out];exact F4 oN hh hp);rw[hp] at Kw;simp only[DJ] at Kw;clear HT oN hh qJ hp;have tg:=Tg.k 2;rotate_left;rw[oN] at ZS;simp only[Y4] at ZS;have mD:=Lr _ _ oN;rcases k with _|k;have HF:Hid (fI J0 sch s=none):=hid (by rw[HT.out];exact Jn oN);have aB:=jW s 0;have JM:=cX s 1;have iV:=aD s;have jY:0+1≤(aA s).size:=by omega
 have adQ:1≤(aA s).size:=by omega
 have hz:((aA []).toList==[])=true:=by rw[ByteArray.toList_eq,aC];rfl
 have qK:(aA []).toList.isEmpty=true:=by rw[ByteArray.toList_eq,aC];rfl
 rw[List.take_zero] at aB;have Kf:=hid iV;clear HT oN iV;have tg:=Tg.k 3;rotate_left;have aB:=jW s (k+1);have JM:=cX s (k+2);have iV:=aD s;have jY:k+1+1≤(aA s).size:=by omega
 have adQ:k+1≤(aA s).size:=by omega
 have ME:k+2≤(aA s).size:=by omega
 have vB:(aA s).size≤5000000:=by have h:=HL.out;first|omega|(simp at h;omega)
 have eG:((aA (s.take (k+1))).toList==[])=false:=by rw[ByteArray.toList_eq,aC];exact beq_eq_false_iff_ne.mpr (Hd (by omega))
 have GD:(aA (s.take (k+1))).toList.isEmpty=false:=mM (Hd (by omega));clear iV;rcases hh:oV (s.take (k+1)) (aV (aA sch)) with _|h;have HF:Hid (fI J0 sch s=none):=hid (by rw[HT.out];exact Jp oN hh);have HH:=hid (fun W hW=>mR (s.take (k+1)) (aV (aA sch)) (by have:=HL.out;first|omega|(simp<;>omega)) W hW);rw[hh] at HH;simp only[iS,cL,eY,List.map] at HH;clear HT oN hh;have tg:=Tg.k 4;rotate_left;have qJ:=(qV (by have:=HL.out;first|omega|(simp<;>omega)) hh).six;obtain⟨hk,hn,hf,hs6⟩:=h;obtain⟨x0,x1,x2,x3,x4,x5,x6,x7,rfl⟩:=eight qJ;have HH:=hid (fun W hW=>mR (s.take (k+1)) (aV (aA sch)) (by have:=HL.out;first|omega|(simp<;>omega)) W hW);have Kw:=hid (fun W (_:Laid W)=>BW sch (s.drop (k+2)) (by have:=HL.out;first|omega|(simp<;>omega)) W);rw[hh] at HH;simp only[iS,cL,eY,List.map] at HH;rcases hp:nQ sch (s.drop (k+2)) with _|z;have HF:Hid (fI J0 sch s=none):=hid (by rw[HT.out];exact F5 oN hh hp);rw[hp] at Kw;simp only[DJ] at Kw;clear HT oN hh qJ hp;have tg:=Tg.k 5;rotate_left;obtain⟨has,n⟩:=z;have HF:Hid (fI J0 sch s=some ⟨[],[],⟨hk,hn,hf,[x0,x1,x2,x3,x4,x5,x6,x7]⟩,has,n⟩):=hid (by rw[HT.out];exact F6 oN hh hp);rw[hp] at Kw;simp only[DJ] at Kw;clear HT oN hh qJ hp;have tg:=Tg.k 6;all_goals
  go_enter Tryz.func142,Tryz.ntmps142;go_wp2_with (first|(refine eX (d:=4) rfl (vJ _) ?_;intro gA w1 aL hA)|(refine eX (d:=6) rfl (vJ _) ?_;intro gB w2 aJ hB));obtain⟨Fb,xH,Fc⟩:=hA.out;obtain⟨Fe,rQ,GM⟩:=hB.out;have yH:gA≠gB:=by omega
  have Ff:w.heap.size≤gB:=by omega
  have zZ:w.heap.size≤gA:=by omega
  have HB:=hid (xH.trans (rQ.mono (by omega)));replace aL:=aL.below rQ;clear xH rQ Fb Fe Fc GM hA hB;simp only[wN,cL,eY,List.map,List.cons_append,List.nil_append] at aL aJ;refine(HLa.out _).mono ?_;rintro e w' ⟨rfl,rfl⟩;go_wp2_with fail;refine(ZS.out _).mono ?_;rintro e w' ⟨rfl,rfl⟩;go_wp2_with fail;first
  |have:Tg 3:=tg;go_region;replace aL:=aL.below (bB _);replace aJ:=aJ.below (bB _);replace HB:=hid (HB.out.trans ((bB _).mono HB.out.size))
  |(first|have:Tg 0:=tg|have:Tg 4:=tg)
   first
   |have:Tg 4:=tg;go_region;replace aL:=aL.below (bB _);replace aJ:=aJ.below (bB _);replace HB:=hid (HB.out.trans ((bB _).mono HB.out.size));go_wp2_with fail
   |skip
   refine(HS.out _).mono ?_;rintro e w' ⟨rfl,rfl⟩;go_wp2_with fail;refine(HH.out _ (HW.out.below HB.out HW.out.size)).mono ?_;rintro e w4 ⟨rfl,cG⟩;replace aL:=aL.below cG;replace aJ:=aJ.below cG;replace HB:=aR HB cG;clear cG
  |first
   |(first|have:Tg 5:=tg|have:Tg 6:=tg)
    go_region;replace aL:=aL.below (bB _);replace aJ:=aJ.below (bB _);replace HB:=hid (HB.out.trans ((bB _).mono HB.out.size));go_wp2_with fail
   |skip
   refine(HS.out _).mono ?_;rintro e w' ⟨rfl,rfl⟩;go_wp2_with fail;refine(HH.out _ (HW.out.below HB.out HW.out.size)).mono ?_;rintro e w4 ⟨rfl,cG⟩;replace aL:=aL.below cG;replace aJ:=aJ.below cG;replace HB:=aR HB cG;clear cG;go_wp2_with (first|(refine eX rfl (mP _) ?_;intro gH w2 S9 hH;have l1:=aL.lt;have l2:=aJ.lt;have g0:=hH.out.1;have hAH:gA≠gH:=(by omega);have hBH:gB≠gH:=(by omega);have hwH:w.heap.size≤gH:=(by have:=HB.out.size;omega);clear l1 l2 g0;replace aL:=aL.below hH.out.2.1;replace aJ:=aJ.below hH.out.2.1;replace HB:=aR HB hH.out.2.1;clear hH)|(refine lU rfl S9 rfl (by kernel_rfl) ?_;intro w1 aH aB;replace aL:=aL.other aB hAH;replace aJ:=aJ.other aB hBH;replace HB:=bU HB aB.1 hwH;replace S9:=aH;clear aB aH)|(refine fF rfl S9 R32 rfl rfl ?_;clear S9 hAH hBH hwH)|(refine eV rfl 32 _ _ rfl gB 2 _ rfl rfl aJ rfl (by kernel_rfl) (by kernel_rfl) ?_;intro w1 aH aB;replace aL:=aL.other aB yH;replace HB:=bU HB aB.1 Ff;replace aJ:=aH;clear aB aH;simp[putAt,Act.eval] at aJ));refine(Kw.out _ (HW.out.below HB.out HW.out.size)).mono ?_;rintro e w5 ⟨rfl,rfl⟩
  go_wp2_with (first|(refine eX rfl (mP _) ?_;intro gH w2 S9 hH;have l1:=aL.lt;have l2:=aJ.lt;have g0:=hH.out.1;have hAH:gA≠gH:=(by omega);have hBH:gB≠gH:=(by omega);have hwH:w.heap.size≤gH:=(by have:=HB.out.size;omega);clear l1 l2 g0;replace aL:=aL.below hH.out.2.1;replace aJ:=aJ.below hH.out.2.1;replace HB:=aR HB hH.out.2.1;clear hH)|(refine lU rfl S9 rfl (by kernel_rfl) ?_;intro w1 aH aB;replace aL:=aL.other aB hAH;replace aJ:=aJ.other aB hBH;replace HB:=bU HB aB.1 hwH;replace S9:=aH;clear aB aH)|(refine aG rfl 166 _ rfl _ _ (Bz _) ?_)|(refine lU rfl aL rfl (by kernel_rfl) ?_;intro w1 aH aB;replace HB:=bU HB aB.1 zZ;replace aL:=aH;clear aB aH)|(refine oT _ rfl aJ rfl (by kernel_rfl) ?_;intro w1 aH aB;replace aL:=aL.other aB yH;replace HB:=bU HB aB.1 Ff;replace aJ:=aH;clear aB aH;simp[Act.eval] at aJ)|(refine fF rfl aJ akK rfl rfl ?_));refine dF rfl _ rfl rfl aL Tryz.underlying166 rfl (by kernel_rfl) rfl ?_;exact⟨by rw[HF.out];rfl,HB.out⟩
theorem P7 {sch s:List UInt8} {k:Nat} (h:lB 64 s=some k):fI J0 sch s=if s.drop (k+1)=[] then none else dX J0 sch (pN 5 (bM 58 (s.take k)).1) (pN 5 (bM 58 (s.take k)).2.1) (s.drop (k+1)):=by unfold fI;rw[h];show(if s.drop (k+1)=[] then none else dX J0 sch (pN 5 (Eo 58 (s.take k)).1) (pN 5 (Eo 58 (s.take k)).2) (s.drop (k+1)))=_;rw[(UG 58 _).1,(UG 58 _).2]
theorem M9 (sch s:List UInt8) (k:Nat) (JT:lB 64 s=some k) (hs:s.length≤5000000) (w:World) (hW:Laid w):Calls Tryz.prog 142 #[.string (aA sch),.string (aA s)] w fun e w'=>e= .returned (By (fI J0 sch s))∧Below w.heap.size w w':=by
 have HW:=hid hW;have HLa:=hid (fun W=>qQ s 64 (by omega) W);have HT0:=hid (P7 (sch:=sch) JT);have mD:=BT JT;simp only[Bk,JT] at HLa;have Ar:(s.take k).length≤s.length:=by simp;omega
 have UB:(s.drop (k+1)).length≤s.length:=by simp
 have HC1:=hid (fun W hW=>oG (s.take k) 58 (by omega) W hW);have hc:=uM 58 (s.take k);have aB:=jW s k;have JM:=cX s (k+1);have iV:=aD s;have jY:k+1≤(aA s).size:=by omega
 have adQ:k≤(aA s).size:=by omega
 have vB:(aA s).size≤5000000:=by omega
 generalize bM 58 (s.take k)=z at*;obtain⟨uu,pp,mm⟩:=z;simp only at HT0 HC1 hc;have CP:=hid (fun W (_:Laid W)=>oI uu 5 5 rfl W (by omega));have HE2:=hid (fun W (_:Laid W)=>oI pp 5 5 rfl W (by omega));have HL:Hid ((s.drop (k+1)).length≤5000000):=hid (by omega);generalize pN 5 uu=us at*;generalize pN 5 pp=ps at*;generalize s.take k=s1 at*;generalize s.drop (k+1)=r at*;clear hW JT hc Ar UB iV mD;by_cases h0:r=[];subst h0;have HF:Hid (fI J0 sch s=none):=hid (by rw[HT0.out,if_pos rfl]);have hz:((aA []).toList==[])=true:=by rw[ByteArray.toList_eq,aC];rfl
 have qK:(aA []).toList.isEmpty=true:=by rw[ByteArray.toList_eq,aC];rfl
 clear HT0;have tg:=Tg.k 0;rotate_left;have HT:Hid (fI J0 sch s=dX J0 sch us ps r):=hid (by rw[HT0.out,if_neg h0]);have aqI:=mM h0;have apH:((aA r).toList==[])=false:=by rw[ByteArray.toList_eq,aC];exact beq_eq_false_iff_ne.mpr h0
 clear HT0 h0;have ZS:=hid (fun W=>IM r (by have:=HL.out;first|omega|(simp<;>omega)) W);have HS:=hid (fun W=>jR (aA sch) W);rcases oN:kJ false r with _|k;rw[oN] at ZS;simp only[Y4] at ZS;rcases hh:oV r (aV (aA sch)) with _|h;have HF:Hid (fI J0 sch s=none):=hid (by rw[HT.out];exact Jo oN hh);have HH:=hid (fun W hW=>mR r (aV (aA sch)) (by have:=HL.out;first|omega|(simp<;>omega)) W hW);rw[hh] at HH;simp only[iS,cL,eY,List.map] at HH;clear HT oN hh;have tg:=Tg.k 1;rotate_left;have qJ:=(qV (by have:=HL.out;first|omega|(simp<;>omega)) hh).six;obtain⟨hk,hn,hf,hs6⟩:=h;obtain⟨x0,x1,x2,x3,x4,x5,x6,x7,rfl⟩:=eight qJ;have HH:=hid (fun W hW=>mR r (aV (aA sch)) (by have:=HL.out;first|omega|(simp<;>omega)) W hW);have Kw:=hid (fun W (_:Laid W)=>BW sch [] (by have:=HL.out;first|omega|(simp<;>omega)) W);rw[hh] at HH;simp only[iS,cL,eY,List.map] at HH;rcases hp:nQ sch [] with _|z;have HF:Hid (fI J0 sch s=none):=hid (by rw[HT.out];exact F3 oN hh hp);rw[hp] at Kw;simp only[DJ] at Kw;clear HT oN hh qJ hp;have tg:=Tg.k 2;rotate_left;obtain⟨has,n⟩:=z;have HF:Hid (fI J0 sch s=some ⟨us,ps,⟨hk,hn,hf,[x0,x1,x2,x3,x4,x5,x6,x7]⟩,has,n⟩):=hid (by rw[HT.out];exact F4 oN hh hp);rw[hp] at Kw;simp only[DJ] at Kw;clear HT oN hh qJ hp;have tg:=Tg.k 3;rotate_left;rw[oN] at ZS;simp only[Y4] at ZS;have mD:=Lr _ _ oN;rcases k with _|k;have HF:Hid (fI J0 sch s=none):=hid (by rw[HT.out];exact Jn oN);have aB:=jW r 0;have JM:=cX r 1;have iV:=aD r;have jY:0+1≤(aA r).size:=by omega
 have adQ:1≤(aA r).size:=by omega
 have hz:((aA []).toList==[])=true:=by rw[ByteArray.toList_eq,aC];rfl
 have qK:(aA []).toList.isEmpty=true:=by rw[ByteArray.toList_eq,aC];rfl
 rw[List.take_zero] at aB;have Kf:=hid iV;clear HT oN iV;have tg:=Tg.k 4;rotate_left;have aB:=jW r (k+1);have JM:=cX r (k+2);have iV:=aD r;have jY:k+1+1≤(aA r).size:=by omega
 have adQ:k+1≤(aA r).size:=by omega
 have ME:k+2≤(aA r).size:=by omega
 have vB:(aA r).size≤5000000:=by have h:=HL.out;first|omega|(simp at h;omega)
 have eG:((aA (r.take (k+1))).toList==[])=false:=by rw[ByteArray.toList_eq,aC];exact beq_eq_false_iff_ne.mpr (Hd (by omega))
 have GD:(aA (r.take (k+1))).toList.isEmpty=false:=mM (Hd (by omega));clear iV;rcases hh:oV (r.take (k+1)) (aV (aA sch)) with _|h;have HF:Hid (fI J0 sch s=none):=hid (by rw[HT.out];exact Jp oN hh);have HH:=hid (fun W hW=>mR (r.take (k+1)) (aV (aA sch)) (by have:=HL.out;first|omega|(simp<;>omega)) W hW);rw[hh] at HH;simp only[iS,cL,eY,List.map] at HH;clear HT oN hh;have tg:=Tg.k 5;rotate_left;have qJ:=(qV (by have:=HL.out;first|omega|(simp<;>omega)) hh).six;obtain⟨hk,hn,hf,hs6⟩:=h;obtain⟨x0,x1,x2,x3,x4,x5,x6,x7,rfl⟩:=eight qJ;have HH:=hid (fun W hW=>mR (r.take (k+1)) (aV (aA sch)) (by have:=HL.out;first|omega|(simp<;>omega)) W hW);have Kw:=hid (fun W (_:Laid W)=>BW sch (r.drop (k+2)) (by have:=HL.out;first|omega|(simp<;>omega)) W);rw[hh] at HH;simp only[iS,cL,eY,List.map] at HH;rcases hp:nQ sch (r.drop (k+2)) with _|z;have HF:Hid (fI J0 sch s=none):=hid (by rw[HT.out];exact F5 oN hh hp);rw[hp] at Kw;simp only[DJ] at Kw;clear HT oN hh qJ hp;have tg:=Tg.k 6;rotate_left;obtain⟨has,n⟩:=z;have HF:Hid (fI J0 sch s=some ⟨us,ps,⟨hk,hn,hf,[x0,x1,x2,x3,x4,x5,x6,x7]⟩,has,n⟩):=hid (by rw[HT.out];exact F6 oN hh hp);rw[hp] at Kw;simp only[DJ] at Kw;clear HT oN hh qJ hp;have tg:=Tg.k 7;all_goals
  go_enter Tryz.func142,Tryz.ntmps142;go_wp2_with (first|(refine eX (d:=4) rfl (vJ _) ?_;intro gA w1 aL hA)|(refine eX (d:=6) rfl (vJ _) ?_;intro gB w2 aJ hB));obtain⟨Fb,xH,Fc⟩:=hA.out;obtain⟨Fe,rQ,GM⟩:=hB.out;have yH:gA≠gB:=by omega
  have Ff:w.heap.size≤gB:=by omega
  have zZ:w.heap.size≤gA:=by omega
  have HB:=hid (xH.trans (rQ.mono (by omega)));replace aL:=aL.below rQ;clear xH rQ Fb Fe Fc GM hA hB;simp only[wN,cL,eY,List.map,List.cons_append,List.nil_append] at aL aJ;refine(HLa.out _).mono ?_;rintro e w' ⟨rfl,rfl⟩;go_wp2_with fail;refine(HC1.out _ (HW.out.below HB.out HW.out.size)).mono ?_;rintro e w4 ⟨rfl,cG⟩;replace aL:=aL.below cG;replace aJ:=aJ.below cG;replace HB:=aR HB cG;clear cG;go_wp2_with fail;refine(CP.out _ (HW.out.below HB.out HW.out.size)).mono ?_;rintro e w5 ⟨rfl,aM⟩;replace aL:=aL.below aM;replace aJ:=aJ.below aM;replace HB:=aR HB aM;clear aM;go_wp2_with (first|(refine oT _ rfl aJ rfl (by kernel_rfl) ?_;intro w1 aH aB;replace aL:=aL.other aB yH;replace HB:=bU HB aB.1 Ff;replace aJ:=aH;clear aB aH;simp[Act.eval] at aJ));refine(HE2.out _ (HW.out.below HB.out HW.out.size)).mono ?_;rintro e w6 ⟨rfl,fH⟩;replace aL:=aL.below fH;replace aJ:=aJ.below fH;replace HB:=aR HB fH;clear fH;go_wp2_with (first|(refine oT _ rfl aJ rfl (by kernel_rfl) ?_;intro w1 aH aB;replace aL:=aL.other aB yH;replace HB:=bU HB aB.1 Ff;replace aJ:=aH;clear aB aH;simp[Act.eval] at aJ)|(refine aG rfl 166 _ rfl _ _ (Bz _) ?_)|(refine lU rfl aL rfl (by kernel_rfl) ?_;intro w1 aH aB;replace HB:=bU HB aB.1 zZ;replace aL:=aH;clear aB aH));first
  |have:Tg 0:=tg
  |refine(ZS.out _).mono ?_;rintro e w' ⟨rfl,rfl⟩;go_wp2_with fail;first
   |have:Tg 4:=tg;go_region;replace aL:=aL.below (bB _);replace aJ:=aJ.below (bB _);replace HB:=hid (HB.out.trans ((bB _).mono HB.out.size))
   |(first|have:Tg 1:=tg|have:Tg 5:=tg)
    first
    |have:Tg 5:=tg;go_region;replace aL:=aL.below (bB _);replace aJ:=aJ.below (bB _);replace HB:=hid (HB.out.trans ((bB _).mono HB.out.size));go_wp2_with fail
    |skip
    refine(HS.out _).mono ?_;rintro e w' ⟨rfl,rfl⟩;go_wp2_with fail;refine(HH.out _ (HW.out.below HB.out HW.out.size)).mono ?_;rintro e w4 ⟨rfl,cG⟩;replace aL:=aL.below cG;replace aJ:=aJ.below cG;replace HB:=aR HB cG;clear cG
   |first
    |(first|have:Tg 6:=tg|have:Tg 7:=tg)
     go_region;replace aL:=aL.below (bB _);replace aJ:=aJ.below (bB _);replace HB:=hid (HB.out.trans ((bB _).mono HB.out.size));go_wp2_with fail
    |skip
    refine(HS.out _).mono ?_;rintro e w' ⟨rfl,rfl⟩;go_wp2_with fail;refine(HH.out _ (HW.out.below HB.out HW.out.size)).mono ?_;rintro e w4 ⟨rfl,cG⟩;replace aL:=aL.below cG;replace aJ:=aJ.below cG;replace HB:=aR HB cG;clear cG;go_wp2_with (first|(refine eX rfl (mP _) ?_;intro gH w2 S9 hH;have l1:=aL.lt;have l2:=aJ.lt;have g0:=hH.out.1;have hAH:gA≠gH:=(by omega);have hBH:gB≠gH:=(by omega);have hwH:w.heap.size≤gH:=(by have:=HB.out.size;omega);clear l1 l2 g0;replace aL:=aL.below hH.out.2.1;replace aJ:=aJ.below hH.out.2.1;replace HB:=aR HB hH.out.2.1;clear hH)|(refine lU rfl S9 rfl (by kernel_rfl) ?_;intro w1 aH aB;replace aL:=aL.other aB hAH;replace aJ:=aJ.other aB hBH;replace HB:=bU HB aB.1 hwH;replace S9:=aH;clear aB aH)|(refine fF rfl S9 R32 rfl rfl ?_;clear S9 hAH hBH hwH)|(refine eV rfl 32 _ _ rfl gB 2 _ rfl rfl aJ rfl (by kernel_rfl) (by kernel_rfl) ?_;intro w1 aH aB;replace aL:=aL.other aB yH;replace HB:=bU HB aB.1 Ff;replace aJ:=aH;clear aB aH;simp[putAt,Act.eval] at aJ));refine(Kw.out _ (HW.out.below HB.out HW.out.size)).mono ?_;rintro e w5 ⟨rfl,rfl⟩
   go_wp2_with (first|(refine eX rfl (mP _) ?_;intro gH w2 S9 hH;have l1:=aL.lt;have l2:=aJ.lt;have g0:=hH.out.1;have hAH:gA≠gH:=(by omega);have hBH:gB≠gH:=(by omega);have hwH:w.heap.size≤gH:=(by have:=HB.out.size;omega);clear l1 l2 g0;replace aL:=aL.below hH.out.2.1;replace aJ:=aJ.below hH.out.2.1;replace HB:=aR HB hH.out.2.1;clear hH)|(refine lU rfl S9 rfl (by kernel_rfl) ?_;intro w1 aH aB;replace aL:=aL.other aB hAH;replace aJ:=aJ.other aB hBH;replace HB:=bU HB aB.1 hwH;replace S9:=aH;clear aB aH)|(refine aG rfl 166 _ rfl _ _ (Bz _) ?_)|(refine lU rfl aL rfl (by kernel_rfl) ?_;intro w1 aH aB;replace HB:=bU HB aB.1 zZ;replace aL:=aH;clear aB aH)|(refine oT _ rfl aJ rfl (by kernel_rfl) ?_;intro w1 aH aB;replace aL:=aL.other aB yH;replace HB:=bU HB aB.1 Ff;replace aJ:=aH;clear aB aH;simp[Act.eval] at aJ)|(refine fF rfl aJ akK rfl rfl ?_))
  refine dF rfl _ rfl rfl aL Tryz.underlying166 rfl (by kernel_rfl) rfl ?_;exact⟨by rw[HF.out];rfl,HB.out⟩
theorem Ta (sch s:List UInt8) (hs:s.length≤5000000) (w:World) (hW:Laid w):Calls Tryz.prog 142 #[.string (aA sch),.string (aA s)] w fun e w'=>e= .returned (By (fI J0 sch s))∧Below w.heap.size w w':=by
 cases h:lB 64 s with
 |none=>exact M8 sch s h hs w hW
 |some k=>exact M9 sch s k h hs w hW
end Go.Proofs.YtmgmclkplepapaaGreatDoor
