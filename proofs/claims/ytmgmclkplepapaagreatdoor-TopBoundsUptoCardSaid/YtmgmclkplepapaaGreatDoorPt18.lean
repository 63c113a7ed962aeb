/- Part of the proof of TopBoundsUptoCardSaid. Conditions: none beyond the statement. -/
import Derived.Test.YtmgmclkplepapaaGreatDoorPt11
import Derived.Test.YtmgmclkplepapaaGreatDoorPt17
set_option linter.all false
set_option maxRecDepth 100000
set_option maxHeartbeats 64000000
namespace Go.Proofs.YtmgmclkplepapaaGreatDoor
open Go.RowKit
theorem OX (l:List UInt8):Lib.hasSuffix l [59]=(iY l).2:=by
 unfold Lib.hasSuffix;rcases xB l with⟨hc,hn⟩|⟨r,hl,hc⟩;·rw[hc];rw[Bool.eq_false_iff];intro e;rw[List.isSuffixOf_iff_suffix] at e;obtain⟨r,hr⟩:=e;exact hn (by rw[←hr];simp)
 ·rw[hc,hl];rw[List.isSuffixOf_iff_suffix];exact⟨r,rfl⟩
theorem yE (s:ByteArray) (i j:Nat):(s.extract i j)=aA ((s.data.toList.drop i).take (j - i)):=by apply ByteArray.ext;apply Array.toList_inj.1;simp[aA,ByteArray.data_extract,List.extract_eq_take_drop]
theorem EP (s:ByteArray) (w:World) (hs:s.size≤1000000000):
 Calls Tryz.prog 185 #[.string s,.string ⟨#[59]⟩] w fun e w'=>e= .returned (.tuple #[.string (aA (iY s.data.toList).1),.bool (iY s.data.toList).2])∧w=w':=by
 have hsf:=OX s.data.toList;have hlen:s.data.toList.length=s.size:=by simp
 have hk:∀w,Calls Tryz.prog 108 #[.string s,.string ⟨#[59]⟩] w fun e w'=>e= .returned (.bool (iY s.data.toList).2)∧w=w':=fun w=>by refine(Tryz.stringslite_HasSuffix s ⟨#[59]⟩ w (by omega)).mono ?_;rintro e w' ⟨rfl,rfl⟩;exact⟨by rw[←hsf],rfl⟩
 have NF:(⟨#[59]⟩:ByteArray).size=1:=rfl;have HK:=hid hk;clear hk hsf;rcases xB s.data.toList with⟨hc,hn⟩|⟨r,hl,hc⟩;·rw[hc] at HK⊢;rw[BR];clear hc hn hlen;go_enter Tryz.func185,Tryz.ntmps185;go_wp2_with fail;refine(HK.out w).mono ?_;rintro e w' ⟨rfl,rfl⟩;go_wp2_with fail;go_ret2;exact⟨rfl,rfl⟩
 ·rw[hc] at HK⊢;have hr:s.size=r.length+1:=by rw[←hlen,hl];simp
  have he:s.extract 0 r.length=aA r:=by rw[yE,hl];simp
  have HE:=hid he;have HR:=hid hr;have hle:r.length≤s.size:=by omega
  have e1:IntKind.i64.wrap ((s.size:Int) - 1)=(r.length:Int):=by rw[IntWalk.i64_in _ (by omega)];omega
  clear hc hl hlen he hr;go_enter Tryz.func185,Tryz.ntmps185;go_wp2_with fail;refine(HK.out w).mono ?_;rintro e w' ⟨rfl,rfl⟩;go_wp2_with fail;go_ret2;exact⟨by rw[←HE.out];rfl,rfl⟩
theorem GC (s:ByteArray) (w:World) (hs:s.size≤1000000000):
 Calls Tryz.prog 144 #[.string s,.string ⟨#[59]⟩] w fun e w'=>e= .returned (.tuple #[.string (aA (iY s.data.toList).1),.bool (iY s.data.toList).2])∧w=w':=by
 have HK:=hid (fun w=>EP s w hs);generalize iY s.data.toList=c at*;obtain⟨c1,c2⟩:=c;simp only[] at*;go_enter Tryz.func144,Tryz.ntmps144;go_wp2_with fail;refine(HK.out w).mono ?_;rintro e w' ⟨rfl,rfl⟩;go_wp2_with fail;go_ret2;exact⟨rfl,rfl⟩
theorem FK (s:ByteArray) (w:World) (hs:s.size≤1000000000):
 Calls Tryz.prog 123 #[.string s] w fun e w'=>e= .returned (Dv (qP s.data.toList))∧Below w.heap.size w w':=by
 have hn:qP s.data.toList=match aX iR (iY s.data.toList).1 with|some t=>some t|none=>if(iY s.data.toList).2=true then aX qO (iY s.data.toList).1 else none:=rfl
 have HK:=hid (fun w=>GC s w hs);generalize iY s.data.toList=c at*;obtain⟨c1,c2⟩:=c;simp only[] at hn HK;have HF:=hid (fun w=>Rv (aA c1) w);have HBd:=hid (fun w=>Oh (aA c1) w);rw[aC] at HF HBd;unfold Dv at HF HBd;have HN:=hid hn;clear hn;rcases hf:aX iR c1 with _|t;rw[hf] at HF;cases c2;have e1:qP s.data.toList=none:=by have:=HN.out;rwa[hf] at this
 rw[e1];unfold Dv;simp only[Option.getD_none,Option.isSome_none] at*;clear hf e1 HN;have tg:=Tg.k 1;rotate_left;have e1:qP s.data.toList=aX qO c1:=by have:=HN.out;rwa[hf] at this
 rw[e1];unfold Dv;simp only[Option.getD_none,Option.isSome_none] at HF;clear hf e1 HN;have tg:=Tg.k 2;rotate_left;have e1:qP s.data.toList=some t:=by have:=HN.out;rwa[hf] at this
 rw[hf] at HF;rw[e1];unfold Dv;simp only[Option.getD_some,Option.isSome_some] at*;clear hf e1 HN;have tg:=Tg.k 0;all_goals
  go_enter Tryz.func123,Tryz.ntmps123;go_wp2_with fail;refine(HK.out w).mono ?_;rintro e w' ⟨rfl,rfl⟩;go_wp2_with fail;refine(HF.out w).mono ?_;rintro e w' ⟨rfl,rfl⟩;go_wp2_with fail;first
  |have:Tg 2:=tg;refine(HBd.out w).mono ?_;rintro e w' ⟨rfl,hb⟩;have HB:=hid hb;clear hb;go_wp2_with fail;go_ret2;exact⟨rfl,HB.out⟩
  |go_ret2;exact⟨rfl,Below.refl _ _⟩
theorem YI:∀i:Fin 256,N6 (UInt8.ofNat i.val)=mY (UInt8.ofNat i.val):=by decide+kernel
theorem acS (c:UInt8):N6 c=mY c:=by have:=YI ⟨c.toNat,c.toNat_lt⟩;simpa using this
theorem My (c:UInt8) (n:Nat) (h:n < 256):((c.toNat:Int)==(n:Int))=(c==UInt8.ofNat n):=by
 rw[Bool.eq_iff_iff];simp only[beq_iff_eq];constructor
 ·intro e;have:c.toNat=n:=by omega
  rw[←this];simp
 ·intro e;subst e;simp[Nat.mod_eq_of_lt h]
theorem Mz (c:UInt8) (w:World):
 Calls Tryz.prog 124 #[.int .u8 (c.toNat:Int)] w fun e w'=>e= .returned (.bool (KZ c))∧w=w':=by
 have hm:KZ c=(mY c||(decide (0≤digit c 10)||((c.toNat:Int)==61))):=by have h61:=My c 61 (by decide);have e:((c.toNat:Int)==61)=(c==61):=h61;rw[e,←acS];unfold KZ;rw[Bool.or_assoc]
 have HM:=hid hm;have HD:=hid (fun w=>kW c 10 (by omega) (by omega) w);have HL:=hid (fun w=>zI c w);generalize digit c 10=d at*;generalize mY c=b at*;clear hm;cases b
 ·go_enter Tryz.func124,Tryz.ntmps124;cases hd:decide (0≤d);·go_wp2_with fail;refine(HL.out w).mono ?_;rintro e w' ⟨rfl,rfl⟩;go_wp2_with fail;refine(HD.out w).mono ?_;rintro e w' ⟨rfl,rfl⟩;go_wp2_with fail;go_ret;exact⟨aZ (by rw[HM.out,hd];rfl),rfl⟩
  ·go_wp2_with fail;refine(HL.out w).mono ?_;rintro e w' ⟨rfl,rfl⟩;go_wp2_with fail;refine(HD.out w).mono ?_;rintro e w' ⟨rfl,rfl⟩;go_wp2_with fail;go_ret;exact⟨aZ (by rw[HM.out,hd];rfl),rfl⟩
 ·go_enter Tryz.func124,Tryz.ntmps124;go_wp2_with fail;refine(HL.out w).mono ?_;rintro e w' ⟨rfl,rfl⟩;go_wp2_with fail;go_ret;exact⟨aZ (by rw[HM.out];rfl),rfl⟩
theorem R5 (s:ByteArray) (t:List UInt8) (h:qP s.data.toList=some t) (hs:s.size≤1000000000) (w:World):
 Calls Tryz.prog 123 #[.string s] w fun e w'=>e= .returned (.tuple #[.string (aA t),.bool true])∧Below w.heap.size w w':=by
 have:=FK s w hs;rw[h] at this;exact this
theorem YJ (s:ByteArray) (h:qP s.data.toList=none) (hs:s.size≤1000000000) (w:World):
 Calls Tryz.prog 123 #[.string s] w fun e w'=>e= .returned (.tuple #[.string ⟨#[]⟩,.bool false])∧Below w.heap.size w w':=by
 have:=FK s w hs;rw[h] at this;exact this
theorem OY {r:List UInt8} {m:Nat} {t:List UInt8} (h:qP (r.take (m+1))=some t):oF r (m+1)=if r[m]? ≠some 59∧Ug (r.drop (m+1))=true then none else some (t,m+1):=by rw[oF];simp only[h]
theorem YK {r:List UInt8} {n:Nat} (h:n < r.length):Ug (r.drop n)=KZ r[n]:=by rw[List.drop_eq_getElem_cons h];rfl
theorem VV {r:List UInt8} {n:Nat} (h:r.length≤n):Ug (r.drop n)=false:=by rw[List.drop_eq_nil_of_le h];rfl
def agR:List UInt8→Bool
 |[]=>false
 |c::_=>c==35
theorem acT (c:UInt8):((c.toNat:Int)==59)=(c==59):=My c 59 (by decide)
theorem Aq (s:ByteArray) (r:List UInt8) (w:World) (hs:s.data.toList=38::r) (hz:s.size≤1000000000):
 Calls Tryz.prog 82 #[.string s] w fun e w'=>e= .returned (Gy (zL r))∧Below w.heap.size w w':=by
 have iW:s.size=r.length+1:=by
  have:s.data.toList.length=s.size:=by simp
  rw[hs] at this;simpa using this.symm
 have akE:Lib.hasPrefix s.data.toList [38,35]=(agR r):=by
  rw[hs];cases r with
  |nil=>rfl
  |cons c q=>
   show(([38,35]:List UInt8).isPrefixOf (38::c::q))=(c==35);by_cases h:c=35;·subst h;rfl
   ·have h1:(c==35)=false:=by simpa using h
    have h2:((35:UInt8)==c)=false:=by rw[beq_eq_false_iff_ne];exact fun e=>h e.symm
    rw[h1];simp[List.isPrefixOf,h2]
 have HP:Hid (∀w,Calls Tryz.prog 65 #[.string s,.string ⟨#[38,35]⟩] w fun e w'=>e= .returned (.bool (agR r))∧w=w'):=hid (fun w=>by
  refine(Tryz.strings_HasPrefix s ⟨#[38,35]⟩ w).mono ?_;rintro e w' ⟨rfl,rfl⟩;exact⟨by rw[←akE],rfl⟩)
 clear akE;cases hc:(agR r)
 ·have hr:zL r=FE r:=by
   cases r with
   |nil=>rfl
   |cons c q=>exact Vm (by have h':(c==35)=false:=hc;simpa using h')
  rw[hc] at HP;have Az:∀j,(h:j < r.length)→(h2:j+1 < s.size)→s[j+1]'h2=r[j]:=fun j h h2=>by
   have h1:s[j+1]'h2=s.data.toList[j+1]'(by rw[hs];simp;omega):=by simp;rfl
   rw[h1];simp only[hs,List.getElem_cons_succ]
  have hcut:∀n,n≤r.length→s.extract 1 (n+1)=aA (r.take n):=fun n _=>by rw[yE,hs];simp
  have HG:=hid Az;have anJ:=hid hcut;have hza:s.size≤r.length+1:=by omega
  have hzb:r.length+1≤s.size:=by omega
  have HR:=hid hr;have hW:IntKind.i64.wrap ((s.size:Int) - 1)=(s.size:Int) - 1:=IntWalk.i64_in _ (by omega);obtain⟨q,hq⟩:∃q,q=min 15 r.length:=⟨_,rfl⟩;have anK:min 15 ((s.size:Int) - 1)=(q:Int):=by omega
  have Kj:q≤15:=by omega
  have Lb:q≤r.length:=by omega
  have HQ:Hid (FE r=oF r q):=hid (by rw[hq];rfl);clear Az hcut hs iW hr hc hq;go_enter Tryz.func82,Tryz.ntmps82;go_wp2_with fail;refine(HP.out w).mono ?_;rintro e w' ⟨rfl,rfl⟩;go_wp2_with fail;clear anK hW;go_loopw [4] (fun i wr=>∃n:Nat,n≤q∧i= .int .i64 n∧Hid (FE r=oF r n)∧Below w.heap.size w wr) (fun i _=>(intOf i).toNat);case atStart=>exact⟨q,Nat.le_refl _,rfl,HQ,Below.refl _ _⟩
  case round=>
   obtain⟨n,hn,rfl,hnm,dB⟩:=hrel;have dR:=hid dB;clear dB;by_cases sE:n=0;·subst sE;have HF:Hid (zL r=none):=hid (by rw[HR.out,hnm.out];rfl);go_wp2_with fail;go_ret2;exact⟨by rw[HF.out];rfl,dR.out⟩
   ·obtain⟨m,hm⟩:∃m,n=m+1:=⟨n - 1,by omega⟩;obtain⟨e,he⟩:∃e,e=n+1:=⟨_,rfl⟩;have Lc:s.extract 1 e=aA (r.take n):=by rw[he];exact anJ.out n (by omega)
    have hxz:(aA (r.take n)).size≤1000000000:=by rw[aD,List.length_take];omega
    have hW1:IntKind.i64.wrap ((n:Int)+1)=(e:Int):=by rw[IntWalk.i64_in _ (by omega)];omega
    have hn1:0 < n:=by omega
    have hnr:n≤r.length:=by omega
    have aB:1≤e:=by omega
    have hes:e≤s.size:=by omega
    have JN:0 < e:=by omega
    have he3:(1:Int)≤(e:Int):=by omega
    have he4:(e:Int)≤(s.size:Int):=by omega
    have HM:=hid hm;have HE:=hid he;clear sE he;cases Ed:qP (r.take n) with
    |none=>
     have HNX:Hid (FE r=oF r m):=hid (by rw[hnm.out,hm,oF];rw[hm] at Ed;simp only[Ed]);have HC:=hid (fun w=>YJ (aA (r.take n)) (by rw[aC];exact Ed) hxz w);clear Ed hnm hm;go_wp2_with fail;refine(HC.out _).mono ?_;rintro e' w4 ⟨rfl,cG⟩;have fG:=aR dR cG;clear cG Lc hW1;go_wp2_with fail;go_roundw;case rel=>exact⟨m,by have:=HM.out;omega,by have:=HM.out;subst this;go_num,HNX,fG.out⟩
     case measure=>simp[intOf];omega
    |some t=>
     have XI:=OY (r:=r) (m:=m) (t:=t) (by rw[←hm];exact Ed);rw[←hm,←hnm.out,←HR.out] at XI;have afK:r[m]? =some (r[m]'(by omega)):=List.getElem?_eq_getElem (by omega);rw[afK] at XI;have HC:=hid (fun w=>R5 (aA (r.take n)) t (by rw[aC];exact Ed) hxz w);have hns:n < s.size:=by omega
     have tM:s[n]'hns=r[m]'(by omega):=by
      have:=HG.out m (by omega) (by omega);have h9:s[n]'hns=s[m+1]'(by omega):=by congr 1
      rw[h9];exact this
     have NF:=acT (r[m]'(by omega));generalize r[m]'(by omega)=c at*;have HBY:=hid tM;clear Ed hnm afK hm;cases zS:(c==59)
     ·rw[zS] at NF;have acU:¬c=59:=by simpa using zS
      have hsb:(((s[n]'hns).toNat:Int)!=59)=true:=by rw[tM];simp[bne,NF]
      by_cases Ed:n < r.length
      ·rw[YK Ed] at XI;have akF:e < s.size:=by have:=HE.out;omega
       have hgo:s[e]'akF=r[n]:=by
        have:=HG.out n Ed (by omega);have h9:s[e]'akF=s[n+1]'(by omega):=by have h':=HE.out;subst h';rfl
        rw[h9];exact this
       have ER:=hid (fun w=>Mz r[n] w);generalize r[n]=d at*;have apP:=hid hgo;clear tM NF zS;cases VW:KZ d;·rw[VW] at ER;have HF:Hid (zL r=some (t,n)):=hid (XI.trans (if_neg (by rintro⟨_,h⟩;rw[VW] at h;cases h)));clear XI VW acU;go_wp2_with fail;refine(HC.out _).mono ?_;rintro e' w4 ⟨rfl,cG⟩;have fG:=aR dR cG;clear cG Lc;go_wp2_with fail;refine(ER.out _).mono ?_;rintro e' w5 ⟨rfl,rfl⟩;go_wp2_with fail;go_ret2;exact⟨by rw[HF.out,HE.out];rfl,fG.out⟩
       ·rw[VW] at ER;have HF:Hid (zL r=none):=hid (by rw[XI,if_pos ⟨by intro e;injection e with e;exact acU e,VW⟩]);clear XI VW acU;go_wp2_with fail;refine(HC.out _).mono ?_;rintro e' w4 ⟨rfl,cG⟩;have fG:=aR dR cG;clear cG Lc;go_wp2_with fail;refine(ER.out _).mono ?_;rintro e' w5 ⟨rfl,rfl⟩;go_wp2_with fail;go_ret2;exact⟨by rw[HF.out];rfl,fG.out⟩
      ·rw[VV (by omega)] at XI;have HF:Hid (zL r=some (t,n)):=hid (by rw[XI,if_neg (by simp)]);have hse:s.size≤e:=by have:=HE.out;omega
       clear XI acU tM NF zS;go_wp2_with fail;refine(HC.out _).mono ?_;rintro e' w4 ⟨rfl,cG⟩;have fG:=aR dR cG;clear cG Lc;go_wp2_with fail;go_ret2;exact⟨by rw[HF.out,HE.out];rfl,fG.out⟩
     ·rw[zS] at NF;have akG:c=59:=by simpa using zS
      have hsb:(((s[n]'hns).toNat:Int)!=59)=false:=by rw[tM];simp[bne,NF]
      have HF:Hid (zL r=some (t,n)):=hid (by rw[XI,if_neg (by rw[akG];simp)]);clear XI akG tM NF zS;go_wp2_with fail;refine(HC.out _).mono ?_;rintro e' w4 ⟨rfl,cG⟩;have fG:=aR dR cG;clear cG Lc;go_wp2_with fail;go_ret2;exact⟨by rw[HF.out,HE.out];rfl,fG.out⟩
 ·cases r with
  |nil=>cases hc
  |cons c q=>
   have anL:c=35:=by have h':(c==35)=true:=hc;simpa using h'
   subst anL;rw[hc] at HP;have HN:=hid (fun w=>Iq s q w hs hz);have HR:Hid (zL (35::q)=Gq q):=hid rfl;rw[HR.out];clear hs iW hc;go_enter Tryz.func82,Tryz.ntmps82;go_wp2_with fail;refine(HP.out w).mono ?_;rintro e w' ⟨rfl,rfl⟩;go_wp2_with fail;refine(HN.out w).mono ?_;rintro e w1 ⟨rfl,eN⟩;have HB:=hid eN;clear eN;cases hnq:Gq q with
   |none=>have HX:=hid hnq;unfold Gy;simp only[];clear hnq;go_wp2_with fail;go_ret2;exact⟨by rw[HX.out];simp[Gy],HB.out⟩
   |some p=>obtain⟨t,n⟩:=p;have HX:=hid hnq;unfold Gy;simp only[];clear hnq;go_wp2_with fail;go_ret2;exact⟨by rw[HX.out];simp[Gy],HB.out⟩
theorem Ca (B b:Nat) (bs:List Value) (s:ByteArray) (w:World) (h:Lib.IsBuilder 65 5 B b bs w) (hlen:bs.length+s.size≤4000000000) (Ie:B≤w.heap.size):
 Calls Tryz.prog 22 #[.pointer (some ⟨b,0,none⟩),.string s] w fun e w'=>e= .returned (.tuple #[.int .i64 s.size,.nilIface])∧(Lib.BuilderAt 65 5 B b (.pointer (some ⟨b,0,none⟩)) (bs++Lib.strCells s) w'∧Below B w w'):=by
 obtain⟨i0,hi,vO,rX,qL⟩:=info_parts infoByte;go_enter Tryz.func22,Tryz.ntmps22;go_wp2_with (go_at_call 49;refine(qN B b bs _ h).mono ?_);rintro e w1 ⟨rfl,h1,eN⟩;obtain⟨hB,v,Dt,bE,eG⟩:=h1;have c0:w1.cell? ⟨b,0,none⟩=some (.pointer (some ⟨b,0,none⟩)):=by rw[Lib.cell_of_heap Dt];rfl
 have c1:w1.cell? ⟨b,1,none⟩=some v:=by rw[Lib.cell_of_heap Dt];rfl
 go_wp2_with (at_builtin;refine Lib.wpList_append_own_string _ rfl _ _ 25 9 rfl B 5 i0 Tryz.underlying25 Tryz.underlying9 hi vO rX qL _ _ _ rfl bE s rfl ?c3 ?c4 ?c5 ?_);case c3=>unfold maxLen;omega
 case c4=>omega
 case c5=>have:=eN.size;omega
 intro v' w2 A7 uW _;have bC:b < w1.heap.size:=by
  rcases Nat.lt_or_ge b w1.heap.size with h'|h';·exact h'
  ·simp[Array.getElem?_eq_none h'] at Dt
 have dE:w2.heap[b]? =some (.cells #[.pointer (some ⟨b,0,none⟩),v] 65 (0,0)):=by rw[uW.block b bC (fun e=>eG e.symm)];exact Dt
 have d0:w2.cell? ⟨b,0,none⟩=some (.pointer (some ⟨b,0,none⟩)):=by rw[Lib.cell_of_heap dE];rfl
 have d1:w2.cell? ⟨b,1,none⟩=some v:=by rw[Lib.cell_of_heap dE];rfl
 have f1:w2.frozen? ⟨b,1,none⟩=false:=Lib.frozen_of_heap dE 1;obtain⟨ao,n',cap,rfl⟩:∃ao n' cap,v'= .slice ao n' cap:=by
  rcases A7.2 with⟨hv,_⟩|⟨g,cap,cur,hv,_⟩;·exact⟨_,_,_,hv⟩
  ·exact⟨_,_,_,hv⟩
 go_wp2;go_ret2;refine⟨rfl,?_,?_⟩;·exact Lib.BuilderAt.put (T:=65) (e:=5) hB dE (bs':=bs++Lib.strCells s) (by simpa[Lib.strCells_length] using A7) (by decide)
 ·exact(eN.grown uW (by have:=eN.size;omega) (fun k hk=>(bE.lt k hk).1)).setCell (p:=⟨b,1,none⟩) hB _
theorem Bf (s:ByteArray):Lib.strCells s=Lib.byteCells s.data.toList:=rfl
theorem cO (w:World) (B b:Nat) (l:List UInt8) (s:ByteArray) (h:rY w B b l) (hlen:l.length+s.size≤4000000000) (Ie:B≤w.heap.size):
 Calls Tryz.prog 22 #[.pointer (some ⟨b,0,none⟩),.string s] w fun e w'=>e= .returned (.tuple #[.int .i64 s.size,.nilIface])∧rY w' B b (l++s.data.toList)∧Below B w w':=by
 refine(Ca B b (Lib.byteCells l) s w h (by rw[rZ];exact hlen) Ie).mono ?_;rintro e w' ⟨rfl,h1,h2⟩;refine⟨rfl,.inr ?_,h2⟩;rw[Bf] at h1;have:Lib.byteCells (l++s.data.toList)=Lib.byteCells l++Lib.byteCells s.data.toList:=by simp[pE]
 rw[this];exact h1
theorem eU (w:World) (B b:Nat) (l:List UInt8) (h:rY w B b l) (Ie:B≤w.heap.size):
 Calls Tryz.prog 28 #[.pointer (some ⟨b,0,none⟩)] w fun e w'=>e= .returned (.string ⟨l.toArray⟩)∧Below B w w':=Tryz.Builder_String_any B b l w h Ie
def qQ (t:TypeId) (w w':World):Prop:=∀(k:Nat) (c:Array Value) (fz:Nat×Nat),w.heap[k]? =some (.cells c t fz)→w'.heap[k]? =some (.cells c t fz)
theorem qQ.refl (t:TypeId) (w:World):qQ t w w:=fun _ _ _ h=>h
theorem qQ.trans {t:TypeId} {a b c:World} (h:qQ t a b) (k:qQ t b c):qQ t a c:=fun i x y hi=>k i x y (h i x y hi)
theorem qQ.setCell {t t':TypeId} {w:World} {b:Nat} {c:Array Value} {fz:Nat×Nat} (h:w.heap[b]? =some (.cells c t' fz)) (ht:t'≠t) (j:Nat) (v:Value):qQ t w (w.setCell ⟨b,j,none⟩ v):=by
 intro k x y hk;by_cases e:k=b;·subst e;rw[h] at hk;injection hk with hk;injection hk with _ h2 _;exact absurd h2 ht
 ·rw[Below.heap_setCell _ _ _ _ e];exact hk
theorem pB.keep {w w':World} {base:Nat} {v:Value} {l:List Nat} (h:pB w base v l) (hk:qQ 3 w w'):pB w' base v l:=by
 obtain⟨h1,h2⟩:=h;refine⟨h1,?_⟩;rcases h2 with h2|⟨g,cap,cur,hv,hg,hh,r⟩;·exact .inl h2
 ·exact .inr ⟨g,cap,cur,hv,hg,hk g cur (0,0) hh,r⟩
theorem qQ.below {t:TypeId} {w w':World} (h:Below w.heap.size w w'):qQ t w w':=fun k c fz hk=>by rw[h.block k (Array.getElem?_eq_some_iff.1 hk).1];exact hk
theorem CN {t:TypeId} (h65:65≠t) (B b:Nat) (bs:List Value) (w:World) (h:Lib.IsBuilder 65 5 B b bs w):
 Calls Tryz.prog 49 #[.pointer (some ⟨b,0,none⟩)] w fun e w'=>e= .returned (.tuple #[])∧(Lib.BuilderAt 65 5 B b (.pointer (some ⟨b,0,none⟩)) bs w'∧Below B w w'∧qQ t w w'):=by
 rcases h with h|h;·refine(pS b w h.cell0 h.shape h.frozen0).mono ?_;rintro e w' ⟨rfl,rfl⟩;have hu:=h.used (.pointer (some ⟨b,0,none⟩));have hB:=h.1;obtain⟨_,v,Dt,_⟩:=h;exact⟨rfl,hu,(Below.refl B w).setCell (p:=⟨b,0,none⟩) hB _,qQ.setCell Dt h65 _ _⟩
 ·refine(qM b w h.cell0).mono ?_;rintro e w' ⟨rfl,rfl⟩;exact⟨rfl,h,Below.refl B _,qQ.refl _ _⟩
theorem Bg {t:TypeId} (h5':5≠t) (h65:65≠t) (B b:Nat) (bs:List Value) (s:ByteArray) (w:World) (h:Lib.IsBuilder 65 5 B b bs w) (hlen:bs.length+s.size≤4000000000) (Ie:B≤w.heap.size):
 Calls Tryz.prog 22 #[.pointer (some ⟨b,0,none⟩),.string s] w fun e w'=>e= .returned (.tuple #[.int .i64 s.size,.nilIface])∧(Lib.BuilderAt 65 5 B b (.pointer (some ⟨b,0,none⟩)) (bs++Lib.strCells s) w'∧Below B w w'∧qQ t w w'):=by
 obtain⟨i0,hi,vO,rX,qL⟩:=info_parts infoByte;go_enter Tryz.func22,Tryz.ntmps22;go_wp2_with (go_at_call 49;refine(CN h65 B b bs _ h).mono ?_);rintro e w1 ⟨rfl,h1,eN,Dr⟩;obtain⟨hB,v,Dt,bE,eG⟩:=h1;have c0:w1.cell? ⟨b,0,none⟩=some (.pointer (some ⟨b,0,none⟩)):=by rw[Lib.cell_of_heap Dt];rfl
 have c1:w1.cell? ⟨b,1,none⟩=some v:=by rw[Lib.cell_of_heap Dt];rfl
 go_wp2_with (at_builtin;refine Lib.wpList_append_own_string _ rfl _ _ 25 9 rfl B 5 i0 Tryz.underlying25 Tryz.underlying9 hi vO rX qL _ _ _ rfl bE s rfl ?c3 ?c4 ?c5 ?_);case c3=>unfold maxLen;omega
 case c4=>omega
 case c5=>have:=eN.size;omega
 intro v' w2 A7 uW _;have bC:b < w1.heap.size:=by
  rcases Nat.lt_or_ge b w1.heap.size with h'|h';·exact h'
  ·simp[Array.getElem?_eq_none h'] at Dt
 have dE:w2.heap[b]? =some (.cells #[.pointer (some ⟨b,0,none⟩),v] 65 (0,0)):=by rw[uW.block b bC (fun e=>eG e.symm)];exact Dt
 have d0:w2.cell? ⟨b,0,none⟩=some (.pointer (some ⟨b,0,none⟩)):=by rw[Lib.cell_of_heap dE];rfl
 have d1:w2.cell? ⟨b,1,none⟩=some v:=by rw[Lib.cell_of_heap dE];rfl
 have f1:w2.frozen? ⟨b,1,none⟩=false:=Lib.frozen_of_heap dE 1;obtain⟨ao,n',cap,rfl⟩:∃ao n' cap,v'= .slice ao n' cap:=by
  rcases A7.2 with⟨hv,_⟩|⟨g,cap,cur,hv,_⟩;·exact⟨_,_,_,hv⟩
  ·exact⟨_,_,_,hv⟩
 go_wp2;go_ret2;refine⟨rfl,?_,?_,?_⟩;·exact Lib.BuilderAt.put (T:=65) (e:=5) hB dE (bs':=bs++Lib.strCells s) (by simpa[Lib.strCells_length] using A7) (by decide)
 ·exact(eN.grown uW (by have:=eN.size;omega) (fun k hk=>(bE.lt k hk).1)).setCell (p:=⟨b,1,none⟩) hB _
 ·refine Dr.trans (qQ.trans (fun k c fz hk=>?_) (qQ.setCell dE h65 _ _));have mE:k < w1.heap.size:=(Array.getElem?_eq_some_iff.1 hk).1;rw[uW.block k mE (fun e=>?_)];·exact hk
  ·have YL:=Lib.ownsRow_kind bE k e.symm;obtain⟨c',fz',hc'⟩:=YL;rw[hk] at hc';injection hc' with hc';injection hc' with _ h5 _;exact absurd h5.symm h5'
theorem sG {t:TypeId} (h5':5≠t) (h65:65≠t) (w:World) (B b:Nat) (l s:List UInt8) (h:rY w B b l) (hlen:l.length+s.length≤4000000000) (Ie:B≤w.heap.size):
 Calls Tryz.prog 22 #[.pointer (some ⟨b,0,none⟩),.string (aA s)] w fun e w'=>e= .returned (.tuple #[.int .i64 (aA s).size,.nilIface])∧rY w' B b (l++s)∧Below B w w'∧qQ t w w':=by
 refine(Bg h5' h65 B b (Lib.byteCells l) (aA s) w h (by rw[rZ,aD];exact hlen) Ie).mono ?_;rintro e w' ⟨rfl,h1,h2,h3⟩;refine⟨rfl,.inr ?_,h2,h3⟩;rw[Bf,aC] at h1;have:Lib.byteCells (l++s)=Lib.byteCells l++Lib.byteCells s:=by simp[pE]
 rw[this];exact h1
theorem Kk (w:World) (B b:Nat) (l s:List UInt8) (h:rY w B b l) (hlen:l.length+s.length≤4000000000) (Ie:B≤w.heap.size):
 Calls Tryz.prog 22 #[.pointer (some ⟨b,0,none⟩),.string (aA s)] w fun e w'=>e= .returned (.tuple #[.int .i64 (aA s).size,.nilIface])∧rY w' B b (l++s)∧Below B w w'∧qQ 3 w w':=sG (by decide) (by decide) w B b l s h hlen Ie
def mem (l:List UInt8) (c:UInt8):Bool:=l.contains c
def QO (c:UInt8):Bool:=decide ((c.toNat:Int) < 32)||decide (126 < (c.toNat:Int))
def sA:List UInt8:=[36,37,38,43,44]
def sB:List UInt8:=[47,58,59,61,64,91,92,93,124]
def sC:List UInt8:=[63,94,96,123,125]
def sD:List UInt8:=[32,34,35,60,62]
def sF:List UInt8:=[32,34,60,62,96]
def mG (set:Int) (c:UInt8):Bool:=
 if set=6 then mem sA c||(mem sB c||(mem sC c||(mem sD c||QO c)))
 else if set=5 then mem sB c||(mem sC c||(mem sD c||QO c))
 else if set=4 then mem sC c||(mem sD c||QO c)
 else if set=2 then mem sD c||QO c
 else if set=0 then QO c
 else if set=3 then decide (c.toNat=39)||(mem sD c||QO c)
 else if set=1 then mem sF c||QO c
 else false
theorem Cp (c:UInt8):∀l:List UInt8,decide (0≤Lib.indexByte l c)=mem l c
 |[]=>rfl
 |b::l=>by
  have ih:=Cp c l;have Ao:=Lib.indexByte_ge l c;unfold Lib.indexByte mem;by_cases hb:b=c;·subst hb;simp
  ·have hcb:c≠b:=fun e=>hb e.symm;unfold mem at ih;by_cases h1:Lib.indexByte l c= -1;·simp[hb,hcb,h1] at ih⊢;exact ih
   ·have h2:0≤Lib.indexByte l c:=by omega
    have h3:0≤Lib.indexByte l c+1:=by omega
    simp[hb,hcb,h1,h2,h3] at ih⊢;exact ih
theorem DF (c:UInt8):((c.toNat:Int)).toNat.toUInt8=c:=by simp
theorem pU (l:List UInt8) (c:UInt8) (w:World):
 Calls Tryz.prog 204 #[.string ⟨l.toArray⟩,.int .u8 (c.toNat:Int)] w fun e w'=>e= .returned (.bool (mem l c))∧w=w':=by
 have hm:=hid (Cp c l);have h1:(⟨l.toArray⟩:ByteArray).data.toList=l:=by simp
 have hc:Calls Tryz.prog 81 #[.string ⟨l.toArray⟩,.int .u8 (c.toNat:Int)] w fun e w'=>e= .returned (.int .i64 (Lib.indexByte l c))∧w=w':=by refine(Tryz.strings_IndexByte ⟨l.toArray⟩ (c.toNat:Int) w).mono ?_;rintro e w' ⟨rfl,rfl⟩;rw[DF];exact⟨rfl,rfl⟩
 have HC:=hid hc;clear hc h1;go_enter Tryz.func204,Tryz.ntmps204;go_wp2_with fail;refine HC.out.mono ?_;rintro e w' ⟨rfl,rfl⟩;generalize Lib.indexByte l c=ix at*;go_wp2;go_ret;exact⟨by rw[←hm.out];rfl,rfl⟩
theorem R6 (c:UInt8) (w:World):
 Calls Tryz.prog 181 #[.int .i64 6,.int .u8 (c.toNat:Int)] w fun e w'=>e= .returned (.bool (mG 6 c))∧w=w':=by
 have bC:c.toNat < 256:=c.toNat_lt;go_enter Tryz.func181,Tryz.ntmps181;go_wp2_with (first|(go_at_call 204;refine(pU _ c _).mono ?_;rintro e w' ⟨rfl,rfl⟩));all_goals go_ret
 all_goals refine⟨aZ ?_,rfl⟩
 all_goals(simp[mG,sA,sB,sC,sD,sF,QO, *];try omega)
theorem R7 (c:UInt8) (w:World):
 Calls Tryz.prog 181 #[.int .i64 5,.int .u8 (c.toNat:Int)] w fun e w'=>e= .returned (.bool (mG 5 c))∧w=w':=by
 have bC:c.toNat < 256:=c.toNat_lt;go_enter Tryz.func181,Tryz.ntmps181;go_wp2_with (first|(go_at_call 204;refine(pU _ c _).mono ?_;rintro e w' ⟨rfl,rfl⟩));all_goals go_ret
 all_goals refine⟨aZ ?_,rfl⟩
 all_goals(simp[mG,sA,sB,sC,sD,sF,QO, *];try omega)
theorem R8 (c:UInt8) (w:World):
 Calls Tryz.prog 181 #[.int .i64 4,.int .u8 (c.toNat:Int)] w fun e w'=>e= .returned (.bool (mG 4 c))∧w=w':=by
 have bC:c.toNat < 256:=c.toNat_lt;go_enter Tryz.func181,Tryz.ntmps181;go_wp2_with (first|(go_at_call 204;refine(pU _ c _).mono ?_;rintro e w' ⟨rfl,rfl⟩));all_goals go_ret
 all_goals refine⟨aZ ?_,rfl⟩
 all_goals(simp[mG,sA,sB,sC,sD,sF,QO, *];try omega)
theorem IB (c:UInt8) (w:World):
 Calls Tryz.prog 181 #[.int .i64 2,.int .u8 (c.toNat:Int)] w fun e w'=>e= .returned (.bool (mG 2 c))∧w=w':=by
 have bC:c.toNat < 256:=c.toNat_lt;go_enter Tryz.func181,Tryz.ntmps181;go_wp2_with (first|(go_at_call 204;refine(pU _ c _).mono ?_;rintro e w' ⟨rfl,rfl⟩));all_goals go_ret
 all_goals refine⟨aZ ?_,rfl⟩
 all_goals(simp[mG,sA,sB,sC,sD,sF,QO, *];try omega)
theorem IC (c:UInt8) (w:World):
 Calls Tryz.prog 181 #[.int .i64 0,.int .u8 (c.toNat:Int)] w fun e w'=>e= .returned (.bool (mG 0 c))∧w=w':=by
 have bC:c.toNat < 256:=c.toNat_lt;go_enter Tryz.func181,Tryz.ntmps181;go_wp2_with (first|(go_at_call 204;refine(pU _ c _).mono ?_;rintro e w' ⟨rfl,rfl⟩));all_goals go_ret
 all_goals refine⟨aZ ?_,rfl⟩
 all_goals(simp[mG,sA,sB,sC,sD,sF,QO, *];try omega)
theorem R9 (c:UInt8) (w:World):
 Calls Tryz.prog 181 #[.int .i64 3,.int .u8 (c.toNat:Int)] w fun e w'=>e= .returned (.bool (mG 3 c))∧w=w':=by
 have bC:c.toNat < 256:=c.toNat_lt;by_cases hc:c.toNat=39
 ·have hf:Hid (mG 3 c=true):=hid (by simp[mG,hc]);have hb:((c.toNat:Int)==39)=true:=by simp;omega
  clear hc;go_enter Tryz.func181,Tryz.ntmps181;go_wp2_with fail;all_goals go_ret
  all_goals exact⟨by rw[hf.out];rfl,rfl⟩
 ·have hf:Hid (mG 3 c=(mem sD c||QO c)):=hid (by simp[mG,hc]);have hf2:Hid (mG 2 c=(mem sD c||QO c)):=hid (by simp[mG]);have hb:((c.toNat:Int)==39)=false:=by simp;omega
  clear hc;go_enter Tryz.func181,Tryz.ntmps181;go_wp2_with fail;refine(IB c _).mono ?_;rintro e w' ⟨rfl,rfl⟩;rw[hf2.out];generalize (mem sD c||QO c)=x at*;go_wp2_with fail;all_goals go_ret
  all_goals exact⟨by rw[hf.out];rfl,rfl⟩
theorem Sa (c:UInt8) (w:World):
 Calls Tryz.prog 181 #[.int .i64 1,.int .u8 (c.toNat:Int)] w fun e w'=>e= .returned (.bool (mG 1 c))∧w=w':=by
 have bC:c.toNat < 256:=c.toNat_lt;go_enter Tryz.func181,Tryz.ntmps181;go_wp2_with (first|(go_at_call 204;refine(pU _ c _).mono ?_;rintro e w' ⟨rfl,rfl⟩)|(go_at_call 181;refine(IC c _).mono ?_;rintro e w' ⟨rfl,rfl⟩));all_goals go_ret
 all_goals refine⟨aZ ?_,rfl⟩
 all_goals(simp[mG,sA,sB,sC,sD,sF,QO, *];try omega)
theorem OZ (set:Int) (c:UInt8) (w:World):
 Calls Tryz.prog 181 #[.int .i64 set,.int .u8 (c.toNat:Int)] w fun e w'=>e= .returned (.bool (mG set c))∧w=w':=by
 by_cases h6:set=6;·subst h6;exact R6 c w
 by_cases h5:set=5;·subst h5;exact R7 c w
 by_cases h4:set=4;·subst h4;exact R8 c w
 by_cases h2:set=2;·subst h2;exact IB c w
 by_cases h0:set=0;·subst h0;exact IC c w
 by_cases h3:set=3;·subst h3;exact R9 c w
 by_cases h1:set=1;·subst h1;exact Sa c w
 have hf:Hid (mG set c=false):=hid (by simp[mG,h6,h5,h4,h3,h2,h1,h0]);go_enter Tryz.func181,Tryz.ntmps181;go_wp2;all_goals go_ret
 all_goals exact⟨by rw[hf.out];rfl,rfl⟩
def Sb:List UInt8:=[48,49,50,51,52,53,54,55,56,57,65,66,67,68,69,70]
def Kl (n:Nat):UInt8:=Sb.getD n 0
def GD (set:Int) (c:UInt8):List UInt8:=if mG set c then[37,Kl (c.toNat / 16),Kl (c.toNat % 16)] else[c]
def vP (set:Int) (l:List UInt8):List UInt8:=l.flatMap (GD set)
theorem VX (set:Int) (l:List UInt8) (c:UInt8):vP set (l++[c])=vP set l++GD set c:=by simp[vP]
theorem YM {set:Int} {c:UInt8} (h:mG set c=true):GD set c=[37,Kl (c.toNat / 16),Kl (c.toNat % 16)]:=by simp[GD,h]
theorem acV {set:Int} {c:UInt8} (h:mG set c=false):GD set c=[c]:=by simp[GD,h]
theorem YN (set:Int) (c:UInt8):(GD set c).length≤3:=by unfold GD;split<;>simp
theorem ID (set:Int) (l:List UInt8):(vP set l).length≤3*l.length:=by
 induction l with
 |nil=>simp[vP]
 |cons c l ih=>have:=YN set c;simp only[vP,List.flatMap_cons,List.length_append,List.length_cons] at ih⊢;omega
theorem Sc (s:ByteArray) (k:Nat) (h:k < s.size):s.data.toList.take (k+1)=s.data.toList.take k++[s[k]]:=by rw[List.take_succ_eq_append_getElem (by simpa using h)];rfl
theorem take_len (s:ByteArray) (k:Nat) (h:k≤s.size):(s.data.toList.take k).length=k:=by rw[List.length_take];simp;omega
theorem YO (s:ByteArray):s.data.toList.take s.size=s.data.toList:=List.take_of_length_le (by simp)
theorem YP (i:Nat) (h:i < 16):(((⟨#[48,49,50,51,52,53,54,55,56,57,65,66,67,68,69,70]⟩:ByteArray)[i]'h).toNat:Int)=((Kl i).toNat:Int):=by
 have:(⟨#[48,49,50,51,52,53,54,55,56,57,65,66,67,68,69,70]⟩:ByteArray)[i]'h=Kl i:=by show(Sb.toArray)[i]'h=_;unfold Kl;simp[List.getD_eq_getElem?_getD,List.getElem?_eq_getElem (show i < Sb.length from h)];rfl
 rw[this]
theorem MA (w:World) (B b:Nat) (l:List UInt8) (h:rY w B b l) (Ie:B≤w.heap.size):
 Calls Tryz.prog 28 #[.pointer (some ⟨b,0,none⟩)] w fun e w'=>e= .returned (.string ⟨l.toArray⟩)∧Below B w w':=
 Tryz.Builder_String_any B b l w h Ie
theorem DG (s:ByteArray) (set:Int) (w:World) (hs:s.size≤1000000000):
 Calls Tryz.prog 140 #[.string s,.int .i64 set] w fun e w'=>e= .returned (.string ⟨(vP set s.data.toList).toArray⟩)∧Below w.heap.size w w':=by
 have K6:=rY.fresh w;have sW:Below w.heap.size w (w.alloc (.cells #[.pointer none,.slice none 0 0] 65)):=(Below.refl _ _).alloc (Nat.le_refl _) _;have IE:=hid K6;clear K6;go_enter Tryz.func140,Tryz.ntmps140;go_wp2;go_loopw [10] (fun i wr=>∃k:Nat,k≤s.size∧i= .int .i64 k∧rY wr w.heap.size w.heap.size (vP set (s.data.toList.take k))∧Below w.heap.size w wr) (fun i _=>s.size - (intOf i).toNat);case atStart=>exact⟨0,Nat.zero_le _,rfl,IE.out,sW⟩
 case round=>
  obtain⟨k,hk,rfl,lA,dB⟩:=hrel;have jP:=hid lA;clear lA sW;have rC:=dB.size;by_cases bC:k < s.size
  ·have hn:Hid (vP set (s.data.toList.take (k+1))=vP set (s.data.toList.take k)++GD set s[k]):=hid (by rw[Sc s k bC,VX]);have Ui:(vP set (s.data.toList.take k)).length≤3000000000:=by have:=ID set (s.data.toList.take k);rw[take_len s k hk] at this;omega
   have uX:(s[k]).toNat < 256:=s[k].toNat_lt;cases hi:mG set s[k] with
   |false=>
    have HI:=hid hi;go_wp2_with fail;refine(OZ set s[k] _).mono ?_;rintro e w1 ⟨rfl,rfl⟩;rw[hi];clear hi;go_wp2_with fail;refine(iQ wr w.heap.size w.heap.size _ s[k] rfl jP.out (by omega) rC).mono ?_;rintro e w2 ⟨rfl,dE,IF⟩;have cK:=hid dE;clear dE;go_wp2_with fail;go_roundw;case rel=>exact⟨k+1,by omega,by go_num,by rw[hn.out,acV HI.out];exact cK.out,dB.trans IF⟩
    case measure=>simp[intOf];omega
   |true=>
    have HI:=hid hi;go_wp2_with fail;refine(OZ set s[k] _).mono ?_;rintro e w1 ⟨rfl,rfl⟩;rw[hi];clear hi;go_wp2_with fail;refine(iQ wr w.heap.size w.heap.size _ 37 rfl jP.out (by omega) rC).mono ?_;rintro e w2 ⟨rfl,dE,IF⟩;have cK:=hid dE;clear dE;go_wp2_with fail;refine(iQ w2 w.heap.size w.heap.size _ (Kl (s[k].toNat / 16)) (YP _ (by omega)) cK.out (by simp;omega) (by have:=IF.size;omega)).mono ?_;rintro e w3 ⟨rfl,cF,O0⟩;have vD:=hid cF;clear cF;have O0:=IF.trans O0;clear IF;go_wp2_with fail;refine(iQ w3 w.heap.size w.heap.size _ (Kl (s[k].toNat % 16)) (YP _ (by omega)) vD.out (by simp;omega) (by have:=O0.size;omega)).mono ?_;rintro e w4 ⟨rfl,cG,YQ⟩;have fG:=hid cG;clear cG;have YQ:=O0.trans YQ;clear O0;go_wp2_with fail;go_roundw;case rel=>exact⟨k+1,by omega,by go_num,by rw[hn.out,YM HI.out];simpa using fG.out,dB.trans YQ⟩
    case measure=>simp[intOf];omega
  ·obtain rfl:k=s.size:=by omega
   have lA:=jP.out;rw[YO] at lA;have anM:=hid lA;clear lA;go_wp2_with fail;refine(MA wr w.heap.size w.heap.size _ anM.out rC).mono ?_;rintro e w2 ⟨rfl,IF⟩;go_wp2_with fail;go_ret;exact⟨rfl,dB.trans IF⟩
end Go.Proofs.YtmgmclkplepapaaGreatDoor
