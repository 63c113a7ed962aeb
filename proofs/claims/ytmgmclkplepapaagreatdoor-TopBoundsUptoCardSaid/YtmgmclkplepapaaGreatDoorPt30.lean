/- Part of the proof of TopBoundsUptoCardSaid. Conditions: none beyond the statement. -/
import Derived.Test.YtmgmclkplepapaaGreatDoorPt28
set_option linter.all false
set_option maxRecDepth 100000
set_option maxHeartbeats 64000000
namespace Go.Proofs.YtmgmclkplepapaaGreatDoor
open Go.RowKit
theorem WK:∀i:Fin 256,(kL (UInt8.ofNat i.val)==(nJ (UInt8.ofNat i.val) 10).isSome&&(decide (Lib.indexByte kG (UInt8.ofNat i.val) < 0)== !(kG.contains (UInt8.ofNat i.val))))=true:=by decide+kernel
theorem ZK (c:UInt8):kL c=(nJ c 10).isSome∧decide (Lib.indexByte kG c < 0)= !(kG.contains c):=by have h:=WK ⟨c.toNat,c.toNat_lt⟩;simp only[UInt8.ofNat_toNat,Bool.and_eq_true,beq_iff_eq] at h;exact h
def Jh (c:UInt8):Bool:=Di c||kL c||kG.contains c
theorem all_cons (f:UInt8→Bool) (c:UInt8) (t:List UInt8):(c::t).all f=(f c&&t.all f):=rfl
theorem WL:(⟨#[33,35,36,37,38,39,42,43,45,46,94,95,96,124,126]⟩:ByteArray)=aA kG:=rfl
theorem Ji (s:List UInt8) (hs:s.length≤1000000000) (w:World):Calls Tryz.prog 149 #[.string (aA s)] w fun e w'=>e= .returned (.bool (wY s))∧w=w':=by
 have HR:Hid (wY s=(s.all Jh&& !s.isEmpty)):=hid (by unfold wY;congr 1;cases s<;>rfl);generalize wY s=R at*;have HE:=hid (cC s);have HZ:=hid (aD s);have HIX:=hid (fun(c:UInt8) (w:World)=>Cr kG c w);rw[←WL] at HIX;go_enter Tryz.func149,Tryz.ntmps149;go_wp2_with fail;go_loopw [3] (fun i wr=>∃k:Nat,i= .int .i64 (k:Int)∧k≤s.length∧Hid (s.all Jh=(s.drop k).all Jh)∧w=wr) (fun i _=>s.length - (intOf i).toNat);case atStart=>exact⟨0,rfl,Nat.zero_le _,hid rfl,rfl⟩
 case round=>
  obtain⟨k,rfl,hk,hF,rfl⟩:=hrel;by_cases bC:k < s.length
  ·have jZ:k < (aA s).size:=by rw[HZ.out];exact bC
   obtain⟨c,hd,hg⟩:=iN bC;have hc:=hg jZ;have iF:c.toNat < 256:=c.toNat_lt;have aT:=hF.out;rw[hd,all_cons] at aT;clear hd hg hF;obtain⟨hn,hx⟩:=ZK c;have HL:=hid (fun w=>zY c w);have HD:=hid (fun w=>mH c 10 (by decide) (by decide) 10 rfl w);have HX:=hid (HIX.out c);have Od:Jh c=(Di c||(nJ c 10).isSome||kG.contains c):=by unfold Jh;rw[hn]
   rw[Od] at aT;clear Od hn;generalize Di c=l1 at*;generalize Lib.indexByte kG c=ix at*;generalize kG.contains c=l3 at*;cases l1 with
   |true=>
    have HF:Hid (s.all Jh=(s.drop (k+1)).all Jh):=hid (by rw[aT];simp);clear aT hx HD HX;go_wp2_with fail;refine(HL.out _).mono ?_;rintro e w' ⟨rfl,rfl⟩;go_wp2_with fail;go_roundw;case rel=>exact⟨k+1,by go_num,by omega,HF,trivial⟩
    case measure=>simp[intOf];omega
   |false=>
    cases DJ:nJ c 10 with
    |some d=>
     rw[DJ] at HD aT;simp only[vQ] at HD;have HF:Hid (s.all Jh=(s.drop (k+1)).all Jh):=hid (by rw[aT];simp);have ND:decide ((d:Int) < 0)=false:=by simp
     clear aT hx HX DJ;go_wp2_with fail;refine(HL.out _).mono ?_;rintro e w' ⟨rfl,rfl⟩;go_wp2_with fail;refine(HD.out _).mono ?_;rintro e w' ⟨rfl,rfl⟩;go_wp2_with fail;go_roundw;case rel=>exact⟨k+1,by go_num,by omega,HF,trivial⟩
     case measure=>simp[intOf];omega
    |none=>
     rw[DJ] at HD aT;simp only[vQ] at HD;cases l3 with
     |true=>
      have HF:Hid (s.all Jh=(s.drop (k+1)).all Jh):=hid (by rw[aT];simp);simp only[Bool.not_true] at hx;clear aT DJ;go_wp2_with fail;refine(HL.out _).mono ?_;rintro e w' ⟨rfl,rfl⟩;go_wp2_with fail;refine(HD.out _).mono ?_;rintro e w' ⟨rfl,rfl⟩;go_wp2_with fail;refine(HX.out _).mono ?_;rintro e w' ⟨rfl,rfl⟩;go_wp2_with fail;go_roundw;case rel=>exact⟨k+1,by go_num,by omega,HF,trivial⟩
      case measure=>simp[intOf];omega
     |false=>have HF:Hid (R=false):=hid (by rw[HR.out,aT];simp);simp only[Bool.not_false] at hx;clear aT DJ;go_wp2_with fail;refine(HL.out _).mono ?_;rintro e w' ⟨rfl,rfl⟩;go_wp2_with fail;refine(HD.out _).mono ?_;rintro e w' ⟨rfl,rfl⟩;go_wp2_with fail;refine(HX.out _).mono ?_;rintro e w' ⟨rfl,rfl⟩;go_wp2_with fail;go_ret;exact⟨aZ HF.out.symm,rfl⟩
  ·have Ec:k=s.length:=by omega
   have aT:=hF.out;rw[Ec,List.drop_length] at aT;have HF:Hid (R= !s.isEmpty):=hid (by rw[HR.out,aT];simp);have hz:=HE.out;have qL:(aA s).size≤k:=by rw[HZ.out];omega
   generalize s.isEmpty=b at*;clear hF aT Ec HIX;go_wp2_with fail;go_ret;exact⟨aZ (by rw[HF.out]),rfl⟩
theorem WM:(⟨#[32]⟩:ByteArray)=aA [32]:=rfl
theorem PO:(⟨#[59]⟩:ByteArray)=aA [59]:=rfl
theorem xE (f:UInt8→Bool) (l:List UInt8):(bS f l).length≤l.length:=by unfold bS;rw[List.length_reverse];have:=bW f l.reverse;rw[List.length_reverse] at this;exact this
theorem WN (s:List UInt8) (hs:s.length≤1000000000) (w:World):Calls Tryz.prog 103 #[.string (aA s)] w fun e w'=>e= .returned (.string (aA (sQ s)))∧Below w.heap.size w w':=by
 have hz:=aD s;by_cases h6:s.length < 6;have HR:Hid (sQ s=s):=hid (by unfold sQ;rw[if_pos (Or.inl h6)]);rw[HR.out];have rX:(aA s).size < 6:=by omega
 clear hz h6;generalize aA s=x at*;have tg:=Tg.k 0;rotate_left;obtain⟨k,hk⟩:∃k,s.length=k+6:=⟨s.length - 6,by omega⟩;have rX:(aA s).size≤1000000000:=by omega
 have qL:k≤(aA s).size:=by omega
 have hw:IntKind.i64.wrap (((aA s).size:Int) - 6)=(k:Int):=by rw[IntWalk.i64_in _ (by omega)];omega
 have ND:decide ((k:Int) < 0)=false:=by simp
 have e1:(aA s).extract k (aA s).size=aA (s.drop k):=cX s k;have e2:(aA s).extract 0 k=aA (s.take k):=jX s k;have HL:=hid (fun w=>sX (s.drop k) w (by rw[List.length_drop];omega));have hRa:sQ s=if gQ (s.drop k)≠Dl then s else(if(bS (· ==32) (s.take k)).getLast? =some 59 then(bS (· ==32) (s.take k)).dropLast else s):=by
  unfold sQ;rw[show s.length - 6=k by omega];by_cases hq:gQ (s.drop k)≠Dl;·rw[if_pos (Or.inr hq),if_pos hq]
  ·rw[if_neg (fun h=>h.elim (fun h=>by omega) hq),if_neg hq]
 have hbe:=Dq (gQ (s.drop k)) Dl;have HT:=hid (fun w=>Bs (s.take k) 32 (by decide) (by rw[List.length_take];omega) w);have hht:(bS (· ==32) (s.take k)).length≤1000000000:=Nat.le_trans (xE _ _) (by rw[List.length_take];omega);generalize hh:bS (· ==32) (s.take k)=h at*;have HC:=hid (fun w=>vJ h 59 (by omega) w);have eN:((aA (gQ (s.drop k))).toList==[98,97,115,101,54,52])=(gQ (s.drop k)==Dl):=hbe;have dE:((aA (gQ (s.drop k))).toList !=[98,97,115,101,54,52])= !(gQ (s.drop k)==Dl):=by unfold bne;rw[eN]
 have hRb:sQ s=if(gQ (s.drop k)==Dl)=true then(if h.getLast? =some 59 then h.dropLast else s) else s:=by
  rw[hRa];by_cases hq:gQ (s.drop k)=Dl;·rw[if_neg (fun h=>h hq)];exact(if_pos (by simpa using hq)).symm
  ·rw[if_pos hq,if_neg (by simpa using hq)]
 clear hbe hRa hz h6 hh hht hk;generalize (gQ (s.drop k)==Dl)=q at*;generalize aA (s.drop k)=y at*;generalize aA (s.take k)=z at*;generalize aA (gQ (s.drop k))=lw at*;have CQ:=hid e1;cases q;have HR:Hid (sQ s=s):=hid (hRb.trans (if_neg (by simp)));rw[HR.out];simp only[Bool.not_false] at dE;clear hRb HC HT e2 hs;generalize aA s=x at*;have tg:=Tg.k 1;rotate_left;simp only[Bool.not_true] at dE;cases hl:decide (h.getLast? =some 59);have HR:Hid (sQ s=s):=hid (by rw[hRb,if_pos rfl,if_neg (by simpa using hl)]);rw[HR.out];rw[hl] at HC;rw[if_neg (by simpa using hl)] at HC;clear hRb hs hl;generalize aA s=x at*;have tg:=Tg.k 3;rotate_left;have HR:Hid (sQ s=h.dropLast):=hid (by rw[hRb,if_pos rfl,if_pos (by simpa using hl)]);rw[HR.out];rw[hl] at HC;rw[if_pos (by simpa using hl)] at HC;clear hRb hs hl;generalize aA s=x at*;have tg:=Tg.k 2;all_goals
  go_enter Tryz.func103,Tryz.ntmps103;go_wp2_with fail;first
  |have:Tg 0:=tg;go_ret;exact⟨rfl,Below.refl _ _⟩
  |refine(HL.out _).mono ?_;rintro e w' ⟨rfl,hb⟩;have HB:=hid hb;clear hb;go_wp2_with fail;first
   |have:Tg 1:=tg
   |rw[WM];refine(HT.out _).mono ?_;rintro e w' ⟨rfl,rfl⟩;go_wp2_with fail;rw[PO];refine(HC.out _).mono ?_;rintro e w' ⟨rfl,rfl⟩;go_wp2_with fail
   go_ret;exact⟨rfl,HB.out⟩
theorem S2:(⟨#[9,10,13,32]⟩:ByteArray)=aA [9,10,13,32]:=rfl
theorem WO:(⟨#[47]⟩:ByteArray)=aA [47]:=rfl
def PQ (o:Option (List UInt8)):Value:=match o with
 |none=> .tuple #[.string ⟨#[]⟩,.bool false]
 |some e=> .tuple #[.string (aA e),.bool true]
theorem M5 (s:List UInt8) (hs:s.length≤1000000000) (w:World) (hW:Laid w):Calls Tryz.prog 106 #[.string (aA s)] w fun e w'=>e= .returned (PQ (uT s))∧Below w.heap.size w w':=by
 have HW:=hid hW;have HRa:Hid (uT s=if(bM 47 (cE lQ s)).2.2&&wY (bM 47 (cE lQ s)).1&&wY (bS lQ (bM 59 (bM 47 (cE lQ s)).2.1).1) then some (gQ (bM 47 (cE lQ s)).1++[47]++gQ (bS lQ (bM 59 (bM 47 (cE lQ s)).2.1).1)) else none):=hid rfl;generalize uT s=R at*;have HT:=hid (fun w=>Wj s (by omega) w);have h0:=sP lQ s;generalize cE lQ s=x at*;have H1:=hid (fun W hW=>oH x 47 (by omega) W hW);have h1:=DO 47 x;generalize bM 47 x=z1 at*;obtain⟨hd,tl,fd⟩:=z1;simp only at h1 H1 HRa;have H2:=hid (fun W hW=>oH tl 59 (by omega) W hW);have h2:=DO 59 tl;generalize bM 59 tl=z2 at*;obtain⟨tl2,r2,f2⟩:=z2;simp only at h2 H2 HRa;have H3:=hid (fun W=>IT tl2 (by omega) W);have h3:=xE lQ tl2;generalize bS lQ tl2=t at*;have HK1:=hid (fun W=>Ji hd (by omega) W);have HK2:=hid (fun W=>Ji t (by omega) W);have HL1:=hid (fun W=>sX hd W (by omega));have HL2:=hid (fun W=>sX t W (by omega));have hl1:(gQ hd).length≤1000000000:=by unfold gQ;rw[List.length_map];omega
 have RY:(gQ t).length≤1000000000:=by unfold gQ;rw[List.length_map];omega
 generalize gQ hd=lh at*;generalize gQ t=lt at*;generalize wY hd=k1 at*;generalize wY t=k2 at*;rw[←S2] at HT H3;rw[←WO] at H1;rw[←PO] at H2;have hy1:(aA lh).size≤1000000000:=by rw[aD];exact hl1
 have hy2:(aA lt).size≤1000000000:=by rw[aD];exact RY
 have hy3:(aA lh++(⟨#[47]⟩:ByteArray)).size≤1000000001:=by rw[ByteArray.size_append];show _+1≤_;omega
 have HS:Hid (aA lh++(⟨#[47]⟩:ByteArray)++aA lt=aA (lh++[47]++lt)):=hid (by rw[iM,iM];rfl);clear hW hs h0 h1 h2 h3 hl1 RY;have HB:Hid (Below w.heap.size w w):=hid (Below.refl _ _);cases fd;have HR:Hid (R=none):=hid (HRa.out.trans (by simp));clear HRa HS;have tg:=Tg.k 0;rotate_left;cases k1;have HR:Hid (R=none):=hid (HRa.out.trans (by simp));clear HRa HS;have tg:=Tg.k 1;rotate_left;cases k2;have HR:Hid (R=none):=hid (HRa.out.trans (by simp));clear HRa HS;have tg:=Tg.k 2;rotate_left;have HR:Hid (R=some (lh++[47]++lt)):=hid (HRa.out.trans (by simp));clear HRa;have tg:=Tg.k 3;all_goals
  go_enter Tryz.func106,Tryz.ntmps106;go_wp2_with fail;refine(HT.out _).mono ?_;rintro e w5 ⟨rfl,aM⟩;replace HB:=aR HB aM;clear aM;go_wp2_with fail;refine(H1.out _ (HW.out.below HB.out HW.out.size)).mono ?_;rintro e w5 ⟨rfl,aM⟩;replace HB:=aR HB aM;clear aM;go_wp2_with fail;first
  |have:Tg 0:=tg
  |refine(H2.out _ (HW.out.below HB.out HW.out.size)).mono ?_;rintro e w5 ⟨rfl,aM⟩;replace HB:=aR HB aM;clear aM;go_wp2_with fail;refine(H3.out _).mono ?_;rintro e w5 ⟨rfl,aM⟩;replace HB:=aR HB aM;clear aM;go_wp2_with fail;refine(HK1.out _).mono ?_;rintro e w' ⟨rfl,rfl⟩;go_wp2_with fail;first
   |have:Tg 1:=tg
   |refine(HK2.out _).mono ?_;rintro e w' ⟨rfl,rfl⟩;go_wp2_with fail;first
    |have:Tg 3:=tg;refine(HL1.out _).mono ?_;rintro e w5 ⟨rfl,aM⟩;replace HB:=aR HB aM;clear aM;go_wp2_with fail;refine(HL2.out _).mono ?_;rintro e w5 ⟨rfl,aM⟩;replace HB:=aR HB aM;clear aM;go_wp2_with fail
    |skip
  go_ret2;first
  |have:Tg 3:=tg;exact⟨hY (by rw[HR.out];show Value.tuple #[.string (aA lh++(⟨#[47]⟩:ByteArray)++aA lt),.bool true]=_;rw[HS.out];rfl),HB.out⟩
  |exact⟨hY (by rw[HR.out];rfl),HB.out⟩
end Go.Proofs.YtmgmclkplepapaaGreatDoor
