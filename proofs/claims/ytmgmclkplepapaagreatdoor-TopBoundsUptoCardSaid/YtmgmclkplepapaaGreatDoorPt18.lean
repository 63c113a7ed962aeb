/- Part of the proof of TopBoundsUptoCardSaid. Conditions: none beyond the statement. -/
import Derived.Test.YtmgmclkplepapaaGreatDoorPt11
import Derived.Test.YtmgmclkplepapaaGreatDoorPt17
set_option linter.all false
set_option maxRecDepth 100000
set_option maxHeartbeats 64000000
namespace Go.Proofs.YtmgmclkplepapaaGreatDoor
open Go.RowKit
theorem OW (l:List UInt8):Lib.hasSuffix l [59]=(iX l).2:=by
 unfold Lib.hasSuffix;rcases xA l with⟨hc,hn⟩|⟨r,hl,hc⟩;·rw[hc];rw[Bool.eq_false_iff];intro e;rw[List.isSuffixOf_iff_suffix] at e;obtain⟨r,hr⟩:=e;exact hn (by rw[←hr];simp)
 ·rw[hc,hl];rw[List.isSuffixOf_iff_suffix];exact⟨r,rfl⟩
theorem yD (s:ByteArray) (i j:Nat):(s.extract i j)=aA ((s.data.toList.drop i).take (j - i)):=by apply ByteArray.ext;apply Array.toList_inj.1;simp[aA,ByteArray.data_extract,List.extract_eq_take_drop]
theorem EO (s:ByteArray) (w:World) (hs:s.size≤1000000000):
 Calls Tryz.prog 185 #[.string s,.string ⟨#[59]⟩] w fun e w'=>e= .returned (.tuple #[.string (aA (iX s.data.toList).1),.bool (iX s.data.toList).2])∧w=w':=by
 have hsf:=OW s.data.toList;have hlen:s.data.toList.length=s.size:=by simp
 have hk:∀w,Calls Tryz.prog 108 #[.string s,.string ⟨#[59]⟩] w fun e w'=>e= .returned (.bool (iX s.data.toList).2)∧w=w':=fun w=>by refine(Tryz.stringslite_HasSuffix s ⟨#[59]⟩ w (by omega)).mono ?_;rintro e w' ⟨rfl,rfl⟩;exact⟨by rw[←hsf],rfl⟩
 have ND:(⟨#[59]⟩:ByteArray).size=1:=rfl;have HK:=hid hk;clear hk hsf;rcases xA s.data.toList with⟨hc,hn⟩|⟨r,hl,hc⟩;·rw[hc] at HK⊢;rw[BQ];clear hc hn hlen;go_enter Tryz.func185,Tryz.ntmps185;go_wp2_with fail;refine(HK.out w).mono ?_;rintro e w' ⟨rfl,rfl⟩;go_wp2_with fail;go_ret2;exact⟨rfl,rfl⟩
 ·rw[hc] at HK⊢;have hr:s.size=r.length+1:=by rw[←hlen,hl];simp
  have he:s.extract 0 r.length=aA r:=by rw[yD,hl];simp
  have HE:=hid he;have HR:=hid hr;have hle:r.length≤s.size:=by omega
  have e1:IntKind.i64.wrap ((s.size:Int) - 1)=(r.length:Int):=by rw[IntWalk.i64_in _ (by omega)];omega
  clear hc hl hlen he hr;go_enter Tryz.func185,Tryz.ntmps185;go_wp2_with fail;refine(HK.out w).mono ?_;rintro e w' ⟨rfl,rfl⟩;go_wp2_with fail;go_ret2;exact⟨by rw[←HE.out];rfl,rfl⟩
theorem GB (s:ByteArray) (w:World) (hs:s.size≤1000000000):
 Calls Tryz.prog 144 #[.string s,.string ⟨#[59]⟩] w fun e w'=>e= .returned (.tuple #[.string (aA (iX s.data.toList).1),.bool (iX s.data.toList).2])∧w=w':=by
 have HK:=hid (fun w=>EO s w hs);generalize iX s.data.toList=c at*;obtain⟨c1,c2⟩:=c;simp only[] at*;go_enter Tryz.func144,Tryz.ntmps144;go_wp2_with fail;refine(HK.out w).mono ?_;rintro e w' ⟨rfl,rfl⟩;go_wp2_with fail;go_ret2;exact⟨rfl,rfl⟩
theorem FJ (s:ByteArray) (w:World) (hs:s.size≤1000000000):
 Calls Tryz.prog 123 #[.string s] w fun e w'=>e= .returned (Du (qO s.data.toList))∧Below w.heap.size w w':=by
 have hn:qO s.data.toList=match aX iQ (iX s.data.toList).1 with|some t=>some t|none=>if(iX s.data.toList).2=true then aX qN (iX s.data.toList).1 else none:=rfl
 have HK:=hid (fun w=>GB s w hs);generalize iX s.data.toList=c at*;obtain⟨c1,c2⟩:=c;simp only[] at hn HK;have HF:=hid (fun w=>Ru (aA c1) w);have HBd:=hid (fun w=>Og (aA c1) w);rw[aC] at HF HBd;unfold Du at HF HBd;have HN:=hid hn;clear hn;rcases hf:aX iQ c1 with _|t;rw[hf] at HF;cases c2;have e1:qO s.data.toList=none:=by have:=HN.out;rwa[hf] at this
 rw[e1];unfold Du;simp only[Option.getD_none,Option.isSome_none] at*;clear hf e1 HN;have tg:=Tg.k 1;rotate_left;have e1:qO s.data.toList=aX qN c1:=by have:=HN.out;rwa[hf] at this
 rw[e1];unfold Du;simp only[Option.getD_none,Option.isSome_none] at HF;clear hf e1 HN;have tg:=Tg.k 2;rotate_left;have e1:qO s.data.toList=some t:=by have:=HN.out;rwa[hf] at this
 rw[hf] at HF;rw[e1];unfold Du;simp only[Option.getD_some,Option.isSome_some] at*;clear hf e1 HN;have tg:=Tg.k 0;all_goals
  go_enter Tryz.func123,Tryz.ntmps123;go_wp2_with fail;refine(HK.out w).mono ?_;rintro e w' ⟨rfl,rfl⟩;go_wp2_with fail;refine(HF.out w).mono ?_;rintro e w' ⟨rfl,rfl⟩;go_wp2_with fail;first
  |have:Tg 2:=tg;refine(HBd.out w).mono ?_;rintro e w' ⟨rfl,hb⟩;have HB:=hid hb;clear hb;go_wp2_with fail;go_ret2;exact⟨rfl,HB.out⟩
  |go_ret2;exact⟨rfl,Below.refl _ _⟩
theorem YH:∀i:Fin 256,N5 (UInt8.ofNat i.val)=mX (UInt8.ofNat i.val):=by decide+kernel
theorem acR (c:UInt8):N5 c=mX c:=by have:=YH ⟨c.toNat,c.toNat_lt⟩;simpa using this
theorem Mx (c:UInt8) (n:Nat) (h:n < 256):((c.toNat:Int)==(n:Int))=(c==UInt8.ofNat n):=by
 rw[Bool.eq_iff_iff];simp only[beq_iff_eq];constructor
 ·intro e;have:c.toNat=n:=by omega
  rw[←this];simp
 ·intro e;subst e;simp[Nat.mod_eq_of_lt h]
theorem My (c:UInt8) (w:World):
 Calls Tryz.prog 124 #[.int .u8 (c.toNat:Int)] w fun e w'=>e= .returned (.bool (KY c))∧w=w':=by
 have hm:KY c=(mX c||(decide (0≤digit c 10)||((c.toNat:Int)==61))):=by have h61:=Mx c 61 (by decide);have e:((c.toNat:Int)==61)=(c==61):=h61;rw[e,←acR];unfold KY;rw[Bool.or_assoc]
 have HM:=hid hm;have HD:=hid (fun w=>kV c 10 (by omega) (by omega) w);have HL:=hid (fun w=>zH c w);generalize digit c 10=d at*;generalize mX c=b at*;clear hm;cases b
 ·go_enter Tryz.func124,Tryz.ntmps124;cases hd:decide (0≤d);·go_wp2_with fail;refine(HL.out w).mono ?_;rintro e w' ⟨rfl,rfl⟩;go_wp2_with fail;refine(HD.out w).mono ?_;rintro e w' ⟨rfl,rfl⟩;go_wp2_with fail;go_ret;exact⟨aZ (by rw[HM.out,hd];rfl),rfl⟩
  ·go_wp2_with fail;refine(HL.out w).mono ?_;rintro e w' ⟨rfl,rfl⟩;go_wp2_with fail;refine(HD.out w).mono ?_;rintro e w' ⟨rfl,rfl⟩;go_wp2_with fail;go_ret;exact⟨aZ (by rw[HM.out,hd];rfl),rfl⟩
 ·go_enter Tryz.func124,Tryz.ntmps124;go_wp2_with fail;refine(HL.out w).mono ?_;rintro e w' ⟨rfl,rfl⟩;go_wp2_with fail;go_ret;exact⟨aZ (by rw[HM.out];rfl),rfl⟩
theorem R4 (s:ByteArray) (t:List UInt8) (h:qO s.data.toList=some t) (hs:s.size≤1000000000) (w:World):
 Calls Tryz.prog 123 #[.string s] w fun e w'=>e= .returned (.tuple #[.string (aA t),.bool true])∧Below w.heap.size w w':=by
 have:=FJ s w hs;rw[h] at this;exact this
theorem YI (s:ByteArray) (h:qO s.data.toList=none) (hs:s.size≤1000000000) (w:World):
 Calls Tryz.prog 123 #[.string s] w fun e w'=>e= .returned (.tuple #[.string ⟨#[]⟩,.bool false])∧Below w.heap.size w w':=by
 have:=FJ s w hs;rw[h] at this;exact this
theorem OX {r:List UInt8} {m:Nat} {t:List UInt8} (h:qO (r.take (m+1))=some t):oE r (m+1)=if r[m]? ≠some 59∧Uf (r.drop (m+1))=true then none else some (t,m+1):=by rw[oE];simp only[h]
theorem YJ {r:List UInt8} {n:Nat} (h:n < r.length):Uf (r.drop n)=KY r[n]:=by rw[List.drop_eq_getElem_cons h];rfl
theorem VU {r:List UInt8} {n:Nat} (h:r.length≤n):Uf (r.drop n)=false:=by rw[List.drop_eq_nil_of_le h];rfl
def agQ:List UInt8→Bool
 |[]=>false
 |c::_=>c==35
theorem acS (c:UInt8):((c.toNat:Int)==59)=(c==59):=Mx c 59 (by decide)
theorem Ap (s:ByteArray) (r:List UInt8) (w:World) (hs:s.data.toList=38::r) (hz:s.size≤1000000000):
 Calls Tryz.prog 82 #[.string s] w fun e w'=>e= .returned (Gx (zK r))∧Below w.heap.size w w':=by
 have iV:s.size=r.length+1:=by
  have:s.data.toList.length=s.size:=by simp
  rw[hs] at this;simpa using this.symm
 have akD:Lib.hasPrefix s.data.toList [38,35]=(agQ r):=by
  rw[hs];cases r with
  |nil=>rfl
  |cons c q=>
   show(([38,35]:List UInt8).isPrefixOf (38::c::q))=(c==35);by_cases h:c=35;·subst h;rfl
   ·have h1:(c==35)=false:=by simpa using h
    have h2:((35:UInt8)==c)=false:=by rw[beq_eq_false_iff_ne];exact fun e=>h e.symm
    rw[h1];simp[List.isPrefixOf,h2]
 have HP:Hid (∀w,Calls Tryz.prog 65 #[.string s,.string ⟨#[38,35]⟩] w fun e w'=>e= .returned (.bool (agQ r))∧w=w'):=hid (fun w=>by
  refine(Tryz.strings_HasPrefix s ⟨#[38,35]⟩ w).mono ?_;rintro e w' ⟨rfl,rfl⟩;exact⟨by rw[←akD],rfl⟩)
 clear akD;cases hc:(agQ r)
 ·have hr:zK r=FD r:=by
   cases r with
   |nil=>rfl
   |cons c q=>exact Vl (by have h':(c==35)=false:=hc;simpa using h')
  rw[hc] at HP;have Ay:∀j,(h:j < r.length)→(h2:j+1 < s.size)→s[j+1]'h2=r[j]:=fun j h h2=>by
   have h1:s[j+1]'h2=s.data.toList[j+1]'(by rw[hs];simp;omega):=by simp;rfl
   rw[h1];simp only[hs,List.getElem_cons_succ]
  have hcut:∀n,n≤r.length→s.extract 1 (n+1)=aA (r.take n):=fun n _=>by rw[yD,hs];simp
  have HG:=hid Ay;have anI:=hid hcut;have hza:s.size≤r.length+1:=by omega
  have hzb:r.length+1≤s.size:=by omega
  have HR:=hid hr;have hW:IntKind.i64.wrap ((s.size:Int) - 1)=(s.size:Int) - 1:=IntWalk.i64_in _ (by omega);obtain⟨q,hq⟩:∃q,q=min 15 r.length:=⟨_,rfl⟩;have anJ:min 15 ((s.size:Int) - 1)=(q:Int):=by omega
  have Ki:q≤15:=by omega
  have La:q≤r.length:=by omega
  have HQ:Hid (FD r=oE r q):=hid (by rw[hq];rfl);clear Ay hcut hs iV hr hc hq;go_enter Tryz.func82,Tryz.ntmps82;go_wp2_with fail;refine(HP.out w).mono ?_;rintro e w' ⟨rfl,rfl⟩;go_wp2_with fail;clear anJ hW;go_loopw [4] (fun i wr=>∃n:Nat,n≤q∧i= .int .i64 n∧Hid (FD r=oE r n)∧Below w.heap.size w wr) (fun i _=>(intOf i).toNat);case atStart=>exact⟨q,Nat.le_refl _,rfl,HQ,Below.refl _ _⟩
  case round=>
   obtain⟨n,hn,rfl,hnm,dB⟩:=hrel;have dR:=hid dB;clear dB;by_cases rZ:n=0;·subst rZ;have HF:Hid (zK r=none):=hid (by rw[HR.out,hnm.out];rfl);go_wp2_with fail;go_ret2;exact⟨by rw[HF.out];rfl,dR.out⟩
   ·obtain⟨m,hm⟩:∃m,n=m+1:=⟨n - 1,by omega⟩;obtain⟨e,he⟩:∃e,e=n+1:=⟨_,rfl⟩;have Lb:s.extract 1 e=aA (r.take n):=by rw[he];exact anI.out n (by omega)
    have hxz:(aA (r.take n)).size≤1000000000:=by rw[aD,List.length_take];omega
    have hW1:IntKind.i64.wrap ((n:Int)+1)=(e:Int):=by rw[IntWalk.i64_in _ (by omega)];omega
    have hn1:0 < n:=by omega
    have hnr:n≤r.length:=by omega
    have aB:1≤e:=by omega
    have hes:e≤s.size:=by omega
    have JM:0 < e:=by omega
    have he3:(1:Int)≤(e:Int):=by omega
    have he4:(e:Int)≤(s.size:Int):=by omega
    have HM:=hid hm;have HE:=hid he;clear rZ he;cases Ec:qO (r.take n) with
    |none=>
     have HNX:Hid (FD r=oE r m):=hid (by rw[hnm.out,hm,oE];rw[hm] at Ec;simp only[Ec]);have HC:=hid (fun w=>YI (aA (r.take n)) (by rw[aC];exact Ec) hxz w);clear Ec hnm hm;go_wp2_with fail;refine(HC.out _).mono ?_;rintro e' w4 ⟨rfl,cG⟩;have fG:=aR dR cG;clear cG Lb hW1;go_wp2_with fail;go_roundw;case rel=>exact⟨m,by have:=HM.out;omega,by have:=HM.out;subst this;go_num,HNX,fG.out⟩
     case measure=>simp[intOf];omega
    |some t=>
     have XH:=OX (r:=r) (m:=m) (t:=t) (by rw[←hm];exact Ec);rw[←hm,←hnm.out,←HR.out] at XH;have afJ:r[m]? =some (r[m]'(by omega)):=List.getElem?_eq_getElem (by omega);rw[afJ] at XH;have HC:=hid (fun w=>R4 (aA (r.take n)) t (by rw[aC];exact Ec) hxz w);have hns:n < s.size:=by omega
     have tL:s[n]'hns=r[m]'(by omega):=by
      have:=HG.out m (by omega) (by omega);have h9:s[n]'hns=s[m+1]'(by omega):=by congr 1
      rw[h9];exact this
     have ND:=acS (r[m]'(by omega));generalize r[m]'(by omega)=c at*;have HBY:=hid tL;clear Ec hnm afJ hm;cases zR:(c==59)
     ·rw[zR] at ND;have acT:¬c=59:=by simpa using zR
      have hsb:(((s[n]'hns).toNat:Int)!=59)=true:=by rw[tL];simp[bne,ND]
      by_cases Ec:n < r.length
      ·rw[YJ Ec] at XH;have akE:e < s.size:=by have:=HE.out;omega
       have hgo:s[e]'akE=r[n]:=by
        have:=HG.out n Ec (by omega);have h9:s[e]'akE=s[n+1]'(by omega):=by have h':=HE.out;subst h';rfl
        rw[h9];exact this
       have EP:=hid (fun w=>My r[n] w);generalize r[n]=d at*;have apO:=hid hgo;clear tL ND zR;cases VV:KY d;·rw[VV] at EP;have HF:Hid (zK r=some (t,n)):=hid (XH.trans (if_neg (by rintro⟨_,h⟩;rw[VV] at h;cases h)));clear XH VV acT;go_wp2_with fail;refine(HC.out _).mono ?_;rintro e' w4 ⟨rfl,cG⟩;have fG:=aR dR cG;clear cG Lb;go_wp2_with fail;refine(EP.out _).mono ?_;rintro e' w5 ⟨rfl,rfl⟩;go_wp2_with fail;go_ret2;exact⟨by rw[HF.out,HE.out];rfl,fG.out⟩
       ·rw[VV] at EP;have HF:Hid (zK r=none):=hid (by rw[XH,if_pos ⟨by intro e;injection e with e;exact acT e,VV⟩]);clear XH VV acT;go_wp2_with fail;refine(HC.out _).mono ?_;rintro e' w4 ⟨rfl,cG⟩;have fG:=aR dR cG;clear cG Lb;go_wp2_with fail;refine(EP.out _).mono ?_;rintro e' w5 ⟨rfl,rfl⟩;go_wp2_with fail;go_ret2;exact⟨by rw[HF.out];rfl,fG.out⟩
      ·rw[VU (by omega)] at XH;have HF:Hid (zK r=some (t,n)):=hid (by rw[XH,if_neg (by simp)]);have hse:s.size≤e:=by have:=HE.out;omega
       clear XH acT tL ND zR;go_wp2_with fail;refine(HC.out _).mono ?_;rintro e' w4 ⟨rfl,cG⟩;have fG:=aR dR cG;clear cG Lb;go_wp2_with fail;go_ret2;exact⟨by rw[HF.out,HE.out];rfl,fG.out⟩
     ·rw[zR] at ND;have akF:c=59:=by simpa using zR
      have hsb:(((s[n]'hns).toNat:Int)!=59)=false:=by rw[tL];simp[bne,ND]
      have HF:Hid (zK r=some (t,n)):=hid (by rw[XH,if_neg (by rw[akF];simp)]);clear XH akF tL ND zR;go_wp2_with fail;refine(HC.out _).mono ?_;rintro e' w4 ⟨rfl,cG⟩;have fG:=aR dR cG;clear cG Lb;go_wp2_with fail;go_ret2;exact⟨by rw[HF.out,HE.out];rfl,fG.out⟩
 ·cases r with
  |nil=>cases hc
  |cons c q=>
   have anK:c=35:=by have h':(c==35)=true:=hc;simpa using h'
   subst anK;rw[hc] at HP;have HN:=hid (fun w=>Ip s q w hs hz);have HR:Hid (zK (35::q)=Gp q):=hid rfl;rw[HR.out];clear hs iV hc;go_enter Tryz.func82,Tryz.ntmps82;go_wp2_with fail;refine(HP.out w).mono ?_;rintro e w' ⟨rfl,rfl⟩;go_wp2_with fail;refine(HN.out w).mono ?_;rintro e w1 ⟨rfl,eN⟩;have HB:=hid eN;clear eN;cases hnq:Gp q with
   |none=>have HX:=hid hnq;unfold Gx;simp only[];clear hnq;go_wp2_with fail;go_ret2;exact⟨by rw[HX.out];simp[Gx],HB.out⟩
   |some p=>obtain⟨t,n⟩:=p;have HX:=hid hnq;unfold Gx;simp only[];clear hnq;go_wp2_with fail;go_ret2;exact⟨by rw[HX.out];simp[Gx],HB.out⟩
theorem B8 (B b:Nat) (bs:List Value) (s:ByteArray) (w:World) (h:Lib.IsBuilder 65 5 B b bs w) (hlen:bs.length+s.size≤4000000000) (Ic:B≤w.heap.size):
 Calls Tryz.prog 22 #[.pointer (some ⟨b,0,none⟩),.string s] w fun e w'=>e= .returned (.tuple #[.int .i64 s.size,.nilIface])∧(Lib.BuilderAt 65 5 B b (.pointer (some ⟨b,0,none⟩)) (bs++Lib.strCells s) w'∧Below B w w'):=by
 obtain⟨i0,hi,vN,rW,qK⟩:=info_parts infoByte;go_enter Tryz.func22,Tryz.ntmps22;go_wp2_with (go_at_call 49;refine(qM B b bs _ h).mono ?_);rintro e w1 ⟨rfl,h1,eN⟩;obtain⟨hB,v,Ds,bE,eG⟩:=h1;have c0:w1.cell? ⟨b,0,none⟩=some (.pointer (some ⟨b,0,none⟩)):=by rw[Lib.cell_of_heap Ds];rfl
 have c1:w1.cell? ⟨b,1,none⟩=some v:=by rw[Lib.cell_of_heap Ds];rfl
 go_wp2_with (at_builtin;refine Lib.wpList_append_own_string _ rfl _ _ 25 9 rfl B 5 i0 Tryz.underlying25 Tryz.underlying9 hi vN rW qK _ _ _ rfl bE s rfl ?c3 ?c4 ?c5 ?_);case c3=>unfold maxLen;omega
 case c4=>omega
 case c5=>have:=eN.size;omega
 intro v' w2 A6 uV _;have bC:b < w1.heap.size:=by
  rcases Nat.lt_or_ge b w1.heap.size with h'|h';·exact h'
  ·simp[Array.getElem?_eq_none h'] at Ds
 have dE:w2.heap[b]? =some (.cells #[.pointer (some ⟨b,0,none⟩),v] 65 (0,0)):=by rw[uV.block b bC (fun e=>eG e.symm)];exact Ds
 have d0:w2.cell? ⟨b,0,none⟩=some (.pointer (some ⟨b,0,none⟩)):=by rw[Lib.cell_of_heap dE];rfl
 have d1:w2.cell? ⟨b,1,none⟩=some v:=by rw[Lib.cell_of_heap dE];rfl
 have f1:w2.frozen? ⟨b,1,none⟩=false:=Lib.frozen_of_heap dE 1;obtain⟨ao,n',cap,rfl⟩:∃ao n' cap,v'= .slice ao n' cap:=by
  rcases A6.2 with⟨hv,_⟩|⟨g,cap,cur,hv,_⟩;·exact⟨_,_,_,hv⟩
  ·exact⟨_,_,_,hv⟩
 go_wp2;go_ret2;refine⟨rfl,?_,?_⟩;·exact Lib.BuilderAt.put (T:=65) (e:=5) hB dE (bs':=bs++Lib.strCells s) (by simpa[Lib.strCells_length] using A6) (by decide)
 ·exact(eN.grown uV (by have:=eN.size;omega) (fun k hk=>(bE.lt k hk).1)).setCell (p:=⟨b,1,none⟩) hB _
theorem Be (s:ByteArray):Lib.strCells s=Lib.byteCells s.data.toList:=rfl
theorem cO (w:World) (B b:Nat) (l:List UInt8) (s:ByteArray) (h:rX w B b l) (hlen:l.length+s.size≤4000000000) (Ic:B≤w.heap.size):
 Calls Tryz.prog 22 #[.pointer (some ⟨b,0,none⟩),.string s] w fun e w'=>e= .returned (.tuple #[.int .i64 s.size,.nilIface])∧rX w' B b (l++s.data.toList)∧Below B w w':=by
 refine(B8 B b (Lib.byteCells l) s w h (by rw[rY];exact hlen) Ic).mono ?_;rintro e w' ⟨rfl,h1,h2⟩;refine⟨rfl,.inr ?_,h2⟩;rw[Be] at h1;have:Lib.byteCells (l++s.data.toList)=Lib.byteCells l++Lib.byteCells s.data.toList:=by simp[pD]
 rw[this];exact h1
theorem eU (w:World) (B b:Nat) (l:List UInt8) (h:rX w B b l) (Ic:B≤w.heap.size):
 Calls Tryz.prog 28 #[.pointer (some ⟨b,0,none⟩)] w fun e w'=>e= .returned (.string ⟨l.toArray⟩)∧Below B w w':=Tryz.Builder_String_any B b l w h Ic
def qP (t:TypeId) (w w':World):Prop:=∀(k:Nat) (c:Array Value) (fz:Nat×Nat),w.heap[k]? =some (.cells c t fz)→w'.heap[k]? =some (.cells c t fz)
theorem qP.refl (t:TypeId) (w:World):qP t w w:=fun _ _ _ h=>h
theorem qP.trans {t:TypeId} {a b c:World} (h:qP t a b) (k:qP t b c):qP t a c:=fun i x y hi=>k i x y (h i x y hi)
theorem qP.setCell {t t':TypeId} {w:World} {b:Nat} {c:Array Value} {fz:Nat×Nat} (h:w.heap[b]? =some (.cells c t' fz)) (ht:t'≠t) (j:Nat) (v:Value):qP t w (w.setCell ⟨b,j,none⟩ v):=by
 intro k x y hk;by_cases e:k=b;·subst e;rw[h] at hk;injection hk with hk;injection hk with _ h2 _;exact absurd h2 ht
 ·rw[Below.heap_setCell _ _ _ _ e];exact hk
theorem pA.keep {w w':World} {base:Nat} {v:Value} {l:List Nat} (h:pA w base v l) (hk:qP 3 w w'):pA w' base v l:=by
 obtain⟨h1,h2⟩:=h;refine⟨h1,?_⟩;rcases h2 with h2|⟨g,cap,cur,hv,hg,hh,r⟩;·exact .inl h2
 ·exact .inr ⟨g,cap,cur,hv,hg,hk g cur (0,0) hh,r⟩
theorem qP.below {t:TypeId} {w w':World} (h:Below w.heap.size w w'):qP t w w':=fun k c fz hk=>by rw[h.block k (Array.getElem?_eq_some_iff.1 hk).1];exact hk
theorem CM {t:TypeId} (h65:65≠t) (B b:Nat) (bs:List Value) (w:World) (h:Lib.IsBuilder 65 5 B b bs w):
 Calls Tryz.prog 49 #[.pointer (some ⟨b,0,none⟩)] w fun e w'=>e= .returned (.tuple #[])∧(Lib.BuilderAt 65 5 B b (.pointer (some ⟨b,0,none⟩)) bs w'∧Below B w w'∧qP t w w'):=by
 rcases h with h|h;·refine(pR b w h.cell0 h.shape h.frozen0).mono ?_;rintro e w' ⟨rfl,rfl⟩;have hu:=h.used (.pointer (some ⟨b,0,none⟩));have hB:=h.1;obtain⟨_,v,Ds,_⟩:=h;exact⟨rfl,hu,(Below.refl B w).setCell (p:=⟨b,0,none⟩) hB _,qP.setCell Ds h65 _ _⟩
 ·refine(qL b w h.cell0).mono ?_;rintro e w' ⟨rfl,rfl⟩;exact⟨rfl,h,Below.refl B _,qP.refl _ _⟩
theorem Bf {t:TypeId} (h5':5≠t) (h65:65≠t) (B b:Nat) (bs:List Value) (s:ByteArray) (w:World) (h:Lib.IsBuilder 65 5 B b bs w) (hlen:bs.length+s.size≤4000000000) (Ic:B≤w.heap.size):
 Calls Tryz.prog 22 #[.pointer (some ⟨b,0,none⟩),.string s] w fun e w'=>e= .returned (.tuple #[.int .i64 s.size,.nilIface])∧(Lib.BuilderAt 65 5 B b (.pointer (some ⟨b,0,none⟩)) (bs++Lib.strCells s) w'∧Below B w w'∧qP t w w'):=by
 obtain⟨i0,hi,vN,rW,qK⟩:=info_parts infoByte;go_enter Tryz.func22,Tryz.ntmps22;go_wp2_with (go_at_call 49;refine(CM h65 B b bs _ h).mono ?_);rintro e w1 ⟨rfl,h1,eN,Dq⟩;obtain⟨hB,v,Ds,bE,eG⟩:=h1;have c0:w1.cell? ⟨b,0,none⟩=some (.pointer (some ⟨b,0,none⟩)):=by rw[Lib.cell_of_heap Ds];rfl
 have c1:w1.cell? ⟨b,1,none⟩=some v:=by rw[Lib.cell_of_heap Ds];rfl
 go_wp2_with (at_builtin;refine Lib.wpList_append_own_string _ rfl _ _ 25 9 rfl B 5 i0 Tryz.underlying25 Tryz.underlying9 hi vN rW qK _ _ _ rfl bE s rfl ?c3 ?c4 ?c5 ?_);case c3=>unfold maxLen;omega
 case c4=>omega
 case c5=>have:=eN.size;omega
 intro v' w2 A6 uV _;have bC:b < w1.heap.size:=by
  rcases Nat.lt_or_ge b w1.heap.size with h'|h';·exact h'
  ·simp[Array.getElem?_eq_none h'] at Ds
 have dE:w2.heap[b]? =some (.cells #[.pointer (some ⟨b,0,none⟩),v] 65 (0,0)):=by rw[uV.block b bC (fun e=>eG e.symm)];exact Ds
 have d0:w2.cell? ⟨b,0,none⟩=some (.pointer (some ⟨b,0,none⟩)):=by rw[Lib.cell_of_heap dE];rfl
 have d1:w2.cell? ⟨b,1,none⟩=some v:=by rw[Lib.cell_of_heap dE];rfl
 have f1:w2.frozen? ⟨b,1,none⟩=false:=Lib.frozen_of_heap dE 1;obtain⟨ao,n',cap,rfl⟩:∃ao n' cap,v'= .slice ao n' cap:=by
  rcases A6.2 with⟨hv,_⟩|⟨g,cap,cur,hv,_⟩;·exact⟨_,_,_,hv⟩
  ·exact⟨_,_,_,hv⟩
 go_wp2;go_ret2;refine⟨rfl,?_,?_,?_⟩;·exact Lib.BuilderAt.put (T:=65) (e:=5) hB dE (bs':=bs++Lib.strCells s) (by simpa[Lib.strCells_length] using A6) (by decide)
 ·exact(eN.grown uV (by have:=eN.size;omega) (fun k hk=>(bE.lt k hk).1)).setCell (p:=⟨b,1,none⟩) hB _
 ·refine Dq.trans (qP.trans (fun k c fz hk=>?_) (qP.setCell dE h65 _ _));have mD:k < w1.heap.size:=(Array.getElem?_eq_some_iff.1 hk).1;rw[uV.block k mD (fun e=>?_)];·exact hk
  ·have YK:=Lib.ownsRow_kind bE k e.symm;obtain⟨c',fz',hc'⟩:=YK;rw[hk] at hc';injection hc' with hc';injection hc' with _ h5 _;exact absurd h5.symm h5'
theorem sE {t:TypeId} (h5':5≠t) (h65:65≠t) (w:World) (B b:Nat) (l s:List UInt8) (h:rX w B b l) (hlen:l.length+s.length≤4000000000) (Ic:B≤w.heap.size):
 Calls Tryz.prog 22 #[.pointer (some ⟨b,0,none⟩),.string (aA s)] w fun e w'=>e= .returned (.tuple #[.int .i64 (aA s).size,.nilIface])∧rX w' B b (l++s)∧Below B w w'∧qP t w w':=by
 refine(Bf h5' h65 B b (Lib.byteCells l) (aA s) w h (by rw[rY,aD];exact hlen) Ic).mono ?_;rintro e w' ⟨rfl,h1,h2,h3⟩;refine⟨rfl,.inr ?_,h2,h3⟩;rw[Be,aC] at h1;have:Lib.byteCells (l++s)=Lib.byteCells l++Lib.byteCells s:=by simp[pD]
 rw[this];exact h1
theorem Kj (w:World) (B b:Nat) (l s:List UInt8) (h:rX w B b l) (hlen:l.length+s.length≤4000000000) (Ic:B≤w.heap.size):
 Calls Tryz.prog 22 #[.pointer (some ⟨b,0,none⟩),.string (aA s)] w fun e w'=>e= .returned (.tuple #[.int .i64 (aA s).size,.nilIface])∧rX w' B b (l++s)∧Below B w w'∧qP 3 w w':=sE (by decide) (by decide) w B b l s h hlen Ic
def mem (l:List UInt8) (c:UInt8):Bool:=l.contains c
def QN (c:UInt8):Bool:=decide ((c.toNat:Int) < 32)||decide (126 < (c.toNat:Int))
def sA:List UInt8:=[36,37,38,43,44]
def sB:List UInt8:=[47,58,59,61,64,91,92,93,124]
def sC:List UInt8:=[63,94,96,123,125]
def sD:List UInt8:=[32,34,35,60,62]
def sF:List UInt8:=[32,34,60,62,96]
def mF (set:Int) (c:UInt8):Bool:=
 if set=6 then mem sA c||(mem sB c||(mem sC c||(mem sD c||QN c)))
 else if set=5 then mem sB c||(mem sC c||(mem sD c||QN c))
 else if set=4 then mem sC c||(mem sD c||QN c)
 else if set=2 then mem sD c||QN c
 else if set=0 then QN c
 else if set=3 then decide (c.toNat=39)||(mem sD c||QN c)
 else if set=1 then mem sF c||QN c
 else false
theorem Co (c:UInt8):∀l:List UInt8,decide (0≤Lib.indexByte l c)=mem l c
 |[]=>rfl
 |b::l=>by
  have ih:=Co c l;have An:=Lib.indexByte_ge l c;unfold Lib.indexByte mem;by_cases hb:b=c;·subst hb;simp
  ·have hcb:c≠b:=fun e=>hb e.symm;unfold mem at ih;by_cases h1:Lib.indexByte l c= -1;·simp[hb,hcb,h1] at ih⊢;exact ih
   ·have h2:0≤Lib.indexByte l c:=by omega
    have h3:0≤Lib.indexByte l c+1:=by omega
    simp[hb,hcb,h1,h2,h3] at ih⊢;exact ih
theorem DE (c:UInt8):((c.toNat:Int)).toNat.toUInt8=c:=by simp
theorem pT (l:List UInt8) (c:UInt8) (w:World):
 Calls Tryz.prog 204 #[.string ⟨l.toArray⟩,.int .u8 (c.toNat:Int)] w fun e w'=>e= .returned (.bool (mem l c))∧w=w':=by
 have hm:=hid (Co c l);have h1:(⟨l.toArray⟩:ByteArray).data.toList=l:=by simp
 have hc:Calls Tryz.prog 81 #[.string ⟨l.toArray⟩,.int .u8 (c.toNat:Int)] w fun e w'=>e= .returned (.int .i64 (Lib.indexByte l c))∧w=w':=by refine(Tryz.strings_IndexByte ⟨l.toArray⟩ (c.toNat:Int) w).mono ?_;rintro e w' ⟨rfl,rfl⟩;rw[DE];exact⟨rfl,rfl⟩
 have HC:=hid hc;clear hc h1;go_enter Tryz.func204,Tryz.ntmps204;go_wp2_with fail;refine HC.out.mono ?_;rintro e w' ⟨rfl,rfl⟩;generalize Lib.indexByte l c=ix at*;go_wp2;go_ret;exact⟨by rw[←hm.out];rfl,rfl⟩
theorem R5 (c:UInt8) (w:World):
 Calls Tryz.prog 181 #[.int .i64 6,.int .u8 (c.toNat:Int)] w fun e w'=>e= .returned (.bool (mF 6 c))∧w=w':=by
 have bC:c.toNat < 256:=c.toNat_lt;go_enter Tryz.func181,Tryz.ntmps181;go_wp2_with (first|(go_at_call 204;refine(pT _ c _).mono ?_;rintro e w' ⟨rfl,rfl⟩));all_goals go_ret
 all_goals refine⟨aZ ?_,rfl⟩
 all_goals(simp[mF,sA,sB,sC,sD,sF,QN, *];try omega)
theorem R6 (c:UInt8) (w:World):
 Calls Tryz.prog 181 #[.int .i64 5,.int .u8 (c.toNat:Int)] w fun e w'=>e= .returned (.bool (mF 5 c))∧w=w':=by
 have bC:c.toNat < 256:=c.toNat_lt;go_enter Tryz.func181,Tryz.ntmps181;go_wp2_with (first|(go_at_call 204;refine(pT _ c _).mono ?_;rintro e w' ⟨rfl,rfl⟩));all_goals go_ret
 all_goals refine⟨aZ ?_,rfl⟩
 all_goals(simp[mF,sA,sB,sC,sD,sF,QN, *];try omega)
theorem R7 (c:UInt8) (w:World):
 Calls Tryz.prog 181 #[.int .i64 4,.int .u8 (c.toNat:Int)] w fun e w'=>e= .returned (.bool (mF 4 c))∧w=w':=by
 have bC:c.toNat < 256:=c.toNat_lt;go_enter Tryz.func181,Tryz.ntmps181;go_wp2_with (first|(go_at_call 204;refine(pT _ c _).mono ?_;rintro e w' ⟨rfl,rfl⟩));all_goals go_ret
 all_goals refine⟨aZ ?_,rfl⟩
 all_goals(simp[mF,sA,sB,sC,sD,sF,QN, *];try omega)
theorem IA (c:UInt8) (w:World):
 Calls Tryz.prog 181 #[.int .i64 2,.int .u8 (c.toNat:Int)] w fun e w'=>e= .returned (.bool (mF 2 c))∧w=w':=by
 have bC:c.toNat < 256:=c.toNat_lt;go_enter Tryz.func181,Tryz.ntmps181;go_wp2_with (first|(go_at_call 204;refine(pT _ c _).mono ?_;rintro e w' ⟨rfl,rfl⟩));all_goals go_ret
 all_goals refine⟨aZ ?_,rfl⟩
 all_goals(simp[mF,sA,sB,sC,sD,sF,QN, *];try omega)
theorem IB (c:UInt8) (w:World):
 Calls Tryz.prog 181 #[.int .i64 0,.int .u8 (c.toNat:Int)] w fun e w'=>e= .returned (.bool (mF 0 c))∧w=w':=by
 have bC:c.toNat < 256:=c.toNat_lt;go_enter Tryz.func181,Tryz.ntmps181;go_wp2_with (first|(go_at_call 204;refine(pT _ c _).mono ?_;rintro e w' ⟨rfl,rfl⟩));all_goals go_ret
 all_goals refine⟨aZ ?_,rfl⟩
 all_goals(simp[mF,sA,sB,sC,sD,sF,QN, *];try omega)
theorem R8 (c:UInt8) (w:World):
 Calls Tryz.prog 181 #[.int .i64 3,.int .u8 (c.toNat:Int)] w fun e w'=>e= .returned (.bool (mF 3 c))∧w=w':=by
 have bC:c.toNat < 256:=c.toNat_lt;by_cases hc:c.toNat=39
 ·have hf:Hid (mF 3 c=true):=hid (by simp[mF,hc]);have hb:((c.toNat:Int)==39)=true:=by simp;omega
  clear hc;go_enter Tryz.func181,Tryz.ntmps181;go_wp2_with fail;all_goals go_ret
  all_goals exact⟨by rw[hf.out];rfl,rfl⟩
 ·have hf:Hid (mF 3 c=(mem sD c||QN c)):=hid (by simp[mF,hc]);have hf2:Hid (mF 2 c=(mem sD c||QN c)):=hid (by simp[mF]);have hb:((c.toNat:Int)==39)=false:=by simp;omega
  clear hc;go_enter Tryz.func181,Tryz.ntmps181;go_wp2_with fail;refine(IA c _).mono ?_;rintro e w' ⟨rfl,rfl⟩;rw[hf2.out];generalize (mem sD c||QN c)=x at*;go_wp2_with fail;all_goals go_ret
  all_goals exact⟨by rw[hf.out];rfl,rfl⟩
theorem R9 (c:UInt8) (w:World):
 Calls Tryz.prog 181 #[.int .i64 1,.int .u8 (c.toNat:Int)] w fun e w'=>e= .returned (.bool (mF 1 c))∧w=w':=by
 have bC:c.toNat < 256:=c.toNat_lt;go_enter Tryz.func181,Tryz.ntmps181;go_wp2_with (first|(go_at_call 204;refine(pT _ c _).mono ?_;rintro e w' ⟨rfl,rfl⟩)|(go_at_call 181;refine(IB c _).mono ?_;rintro e w' ⟨rfl,rfl⟩));all_goals go_ret
 all_goals refine⟨aZ ?_,rfl⟩
 all_goals(simp[mF,sA,sB,sC,sD,sF,QN, *];try omega)
theorem OY (set:Int) (c:UInt8) (w:World):
 Calls Tryz.prog 181 #[.int .i64 set,.int .u8 (c.toNat:Int)] w fun e w'=>e= .returned (.bool (mF set c))∧w=w':=by
 by_cases h6:set=6;·subst h6;exact R5 c w
 by_cases h5:set=5;·subst h5;exact R6 c w
 by_cases h4:set=4;·subst h4;exact R7 c w
 by_cases h2:set=2;·subst h2;exact IA c w
 by_cases h0:set=0;·subst h0;exact IB c w
 by_cases h3:set=3;·subst h3;exact R8 c w
 by_cases h1:set=1;·subst h1;exact R9 c w
 have hf:Hid (mF set c=false):=hid (by simp[mF,h6,h5,h4,h3,h2,h1,h0]);go_enter Tryz.func181,Tryz.ntmps181;go_wp2;all_goals go_ret
 all_goals exact⟨by rw[hf.out];rfl,rfl⟩
def Sa:List UInt8:=[48,49,50,51,52,53,54,55,56,57,65,66,67,68,69,70]
def Kk (n:Nat):UInt8:=Sa.getD n 0
def GC (set:Int) (c:UInt8):List UInt8:=if mF set c then[37,Kk (c.toNat / 16),Kk (c.toNat % 16)] else[c]
def vO (set:Int) (l:List UInt8):List UInt8:=l.flatMap (GC set)
theorem VW (set:Int) (l:List UInt8) (c:UInt8):vO set (l++[c])=vO set l++GC set c:=by simp[vO]
theorem YL {set:Int} {c:UInt8} (h:mF set c=true):GC set c=[37,Kk (c.toNat / 16),Kk (c.toNat % 16)]:=by simp[GC,h]
theorem acU {set:Int} {c:UInt8} (h:mF set c=false):GC set c=[c]:=by simp[GC,h]
theorem YM (set:Int) (c:UInt8):(GC set c).length≤3:=by unfold GC;split<;>simp
theorem IC (set:Int) (l:List UInt8):(vO set l).length≤3*l.length:=by
 induction l with
 |nil=>simp[vO]
 |cons c l ih=>have:=YM set c;simp only[vO,List.flatMap_cons,List.length_append,List.length_cons] at ih⊢;omega
theorem Sb (s:ByteArray) (k:Nat) (h:k < s.size):s.data.toList.take (k+1)=s.data.toList.take k++[s[k]]:=by rw[List.take_succ_eq_append_getElem (by simpa using h)];rfl
theorem take_len (s:ByteArray) (k:Nat) (h:k≤s.size):(s.data.toList.take k).length=k:=by rw[List.length_take];simp;omega
theorem YN (s:ByteArray):s.data.toList.take s.size=s.data.toList:=List.take_of_length_le (by simp)
theorem YO (i:Nat) (h:i < 16):(((⟨#[48,49,50,51,52,53,54,55,56,57,65,66,67,68,69,70]⟩:ByteArray)[i]'h).toNat:Int)=((Kk i).toNat:Int):=by
 have:(⟨#[48,49,50,51,52,53,54,55,56,57,65,66,67,68,69,70]⟩:ByteArray)[i]'h=Kk i:=by show(Sa.toArray)[i]'h=_;unfold Kk;simp[List.getD_eq_getElem?_getD,List.getElem?_eq_getElem (show i < Sa.length from h)];rfl
 rw[this]
theorem Mz (w:World) (B b:Nat) (l:List UInt8) (h:rX w B b l) (Ic:B≤w.heap.size):
 Calls Tryz.prog 28 #[.pointer (some ⟨b,0,none⟩)] w fun e w'=>e= .returned (.string ⟨l.toArray⟩)∧Below B w w':=
 Tryz.Builder_String_any B b l w h Ic
theorem DF (s:ByteArray) (set:Int) (w:World) (hs:s.size≤1000000000):
 Calls Tryz.prog 140 #[.string s,.int .i64 set] w fun e w'=>e= .returned (.string ⟨(vO set s.data.toList).toArray⟩)∧Below w.heap.size w w':=by
 have K5:=rX.fresh w;have sV:Below w.heap.size w (w.alloc (.cells #[.pointer none,.slice none 0 0] 65)):=(Below.refl _ _).alloc (Nat.le_refl _) _;have ID:=hid K5;clear K5;go_enter Tryz.func140,Tryz.ntmps140;go_wp2;go_loopw [10] (fun i wr=>∃k:Nat,k≤s.size∧i= .int .i64 k∧rX wr w.heap.size w.heap.size (vO set (s.data.toList.take k))∧Below w.heap.size w wr) (fun i _=>s.size - (intOf i).toNat);case atStart=>exact⟨0,Nat.zero_le _,rfl,ID.out,sV⟩
 case round=>
  obtain⟨k,hk,rfl,kZ,dB⟩:=hrel;have jO:=hid kZ;clear kZ sV;have rB:=dB.size;by_cases bC:k < s.size
  ·have hn:Hid (vO set (s.data.toList.take (k+1))=vO set (s.data.toList.take k)++GC set s[k]):=hid (by rw[Sb s k bC,VW]);have Uh:(vO set (s.data.toList.take k)).length≤3000000000:=by have:=IC set (s.data.toList.take k);rw[take_len s k hk] at this;omega
   have uW:(s[k]).toNat < 256:=s[k].toNat_lt;cases hi:mF set s[k] with
   |false=>
    have HI:=hid hi;go_wp2_with fail;refine(OY set s[k] _).mono ?_;rintro e w1 ⟨rfl,rfl⟩;rw[hi];clear hi;go_wp2_with fail;refine(iP wr w.heap.size w.heap.size _ s[k] rfl jO.out (by omega) rB).mono ?_;rintro e w2 ⟨rfl,dE,IE⟩;have cK:=hid dE;clear dE;go_wp2_with fail;go_roundw;case rel=>exact⟨k+1,by omega,by go_num,by rw[hn.out,acU HI.out];exact cK.out,dB.trans IE⟩
    case measure=>simp[intOf];omega
   |true=>
    have HI:=hid hi;go_wp2_with fail;refine(OY set s[k] _).mono ?_;rintro e w1 ⟨rfl,rfl⟩;rw[hi];clear hi;go_wp2_with fail;refine(iP wr w.heap.size w.heap.size _ 37 rfl jO.out (by omega) rB).mono ?_;rintro e w2 ⟨rfl,dE,IE⟩;have cK:=hid dE;clear dE;go_wp2_with fail;refine(iP w2 w.heap.size w.heap.size _ (Kk (s[k].toNat / 16)) (YO _ (by omega)) cK.out (by simp;omega) (by have:=IE.size;omega)).mono ?_;rintro e w3 ⟨rfl,cF,OZ⟩;have vC:=hid cF;clear cF;have OZ:=IE.trans OZ;clear IE;go_wp2_with fail;refine(iP w3 w.heap.size w.heap.size _ (Kk (s[k].toNat % 16)) (YO _ (by omega)) vC.out (by simp;omega) (by have:=OZ.size;omega)).mono ?_;rintro e w4 ⟨rfl,cG,YP⟩;have fG:=hid cG;clear cG;have YP:=OZ.trans YP;clear OZ;go_wp2_with fail;go_roundw;case rel=>exact⟨k+1,by omega,by go_num,by rw[hn.out,YL HI.out];simpa using fG.out,dB.trans YP⟩
    case measure=>simp[intOf];omega
  ·obtain rfl:k=s.size:=by omega
   have kZ:=jO.out;rw[YN] at kZ;have anL:=hid kZ;clear kZ;go_wp2_with fail;refine(Mz wr w.heap.size w.heap.size _ anL.out rB).mono ?_;rintro e w2 ⟨rfl,IE⟩;go_wp2_with fail;go_ret;exact⟨rfl,dB.trans IE⟩
end Go.Proofs.YtmgmclkplepapaaGreatDoor
