/- Part of the proof of TopBoundsUptoCardSaid. Conditions: none beyond the statement. -/
import Derived.Test.YtmgmclkplepapaaGreatDoorPt30
import Derived.Test.YtmgmclkplepapaaGreatDoorPt44
set_option linter.all false
set_option maxRecDepth 100000
set_option maxHeartbeats 64000000
namespace Go.Proofs.YtmgmclkplepapaaGreatDoor
open Go.RowKit
theorem TE (u:bD):(aQ J0 u false).length≤(aQ J0 u true).length:=by unfold aQ;simp only[Bool.and_false,Bool.and_true,List.length_append];simp
theorem aaE (s:List UInt8):(sQ (cE aI (iI (rE++[58]) s))).length≤s.length:=by
 have h1:=sP aI (iI (rE++[58]) s);have h2:(iI (rE++[58]) s).length≤s.length:=by
  unfold iI;split;·rw[List.length_drop];omega
  ·exact Nat.le_refl _
 have h3:∀t,(sQ t).length≤t.length:=by
  intro t;unfold sQ;simp only;have ht:=xE (· ==32) (t.take (t.length - 6));rw[List.length_take] at ht;split;·exact Nat.le_refl _
  ·split;·rw[List.length_dropLast];omega
   ·exact Nat.le_refl _
 exact Nat.le_trans (h3 _) (Nat.le_trans h1 h2)
theorem aaF (s:List UInt8) (q:UInt8):([q]:List UInt8).isPrefixOf s=decide (s.head? =some q):=by
 cases s with
 |nil=>rfl
 |cons a r=>simp[List.isPrefixOf];rw[Bool.eq_iff_iff];simp;exact eq_comm
theorem Xh {N:Nat→Prop} {w:World} {arr:Array Value} {u:bD} (hb:cT N w arr u) (hlen:(aQ J0 u true).length≤100000000) (hW:Laid w):Calls Tryz.prog 62 #[.agg arr] w fun e w'=>e= .returned (PQ (KV J0 u))∧Below w.heap.size w w':=by
 have HW:=hid hW;have HU:=hid hb;have CM:=hb.cells.1;have qX:=hid hb.dH;have YC:=TE u;have HB:Hid (Below w.heap.size w w):=hid (Below.refl _ _);have DP:=hid (fun W (h:cT N W arr u) hW=>Ad h false (by omega) (w:=W) hW);have HR:Hid (KV J0 u=if u.scheme≠rE then none else(if(bM 44 (aQ J0 u false)).2.2=false then none else
  some ((uT (if(sQ (cE aI (iI (rE++[58]) (bM 44 (aQ J0 u false)).1))).head? =some 59 then AS++sQ (cE aI (iI (rE++[58]) (bM 44 (aQ J0 u false)).1)) else sQ (cE aI (iI (rE++[58]) (bM 44 (aQ J0 u false)).1)))).getD AS))):=hid rfl
 generalize KV J0 u=R at*;have Co:=oK u.scheme;clear hb hW;by_cases hd:u.scheme=rE
 ·replace HR:=hid (HR.out.trans (if_neg (by simpa using hd)));have he:((aA u.scheme).toList !=[100,97,116,97])=false:=by rw[Co,hd];rfl
  have JN:((aA u.scheme).toList==[100,97,116,97])=true:=by rw[Co,hd];rfl
  generalize aA u.scheme=sch at*;generalize aQ J0 u false=s at*;have HCU:Hid (∀W,Laid W→Calls Tryz.prog 53 #[.string (aA s),.string ⟨#[44]⟩] W fun e w'=>e= .returned (.tuple #[.string (aA (bM 44 s).1),.string (aA (bM 44 s).2.1),.bool (bM 44 s).2.2])∧Below W.heap.size W w'):=hid (fun W hW=>oH s 44 (by omega) W hW);have oO:=DO 44 s;generalize bM 44 s=z at*;obtain⟨z1,z2,z3⟩:=z;simp only at HCU oO HR;have tF:=aaE z1;have HTP:Hid (∀W,Calls Tryz.prog 105 #[.string (aA z1),.string ⟨#[100,97,116,97,58]⟩] W fun e w'=>e= .returned (.string (aA (iI (rE++[58]) z1)))∧W=w'):=hid (fun W=>Bn z1 (rE++[58]) W);have As:(iI (rE++[58]) z1).length≤z1.length:=by
   unfold iI;split;·rw[List.length_drop];omega
   ·exact Nat.le_refl _
  generalize iI (rE++[58]) z1=t1 at*;have rG:=hid (fun W=>Ot t1 W (by omega));have IY:=sP aI t1;generalize cE aI t1=t2 at*;have Xi:=hid (fun W=>WN t2 (by omega) W);generalize sQ t2=b at*;have LC:Hid (∀W,Calls Tryz.prog 65 #[.string (aA b),.string ⟨#[59]⟩] W fun e w'=>e= .returned (.bool (decide (b.head? =some 59)))∧W=w'):=hid (fun W=>by have:=jU b [59] W;rw[aaF] at this;exact this);have FW:AS.length=10:=rfl;have HES:=hid (fun x (hx:x.length≤100000010) W hW=>M5 x (by omega) W hW);have lA:b.length≤100000000:=by omega
  clear oO tF As IY YC hlen Co hd;go_enter Tryz.func62,Tryz.ntmps62;go_wp2_with (first|(refine jH (arr:=arr) rfl rfl ?_;intro g1 w2 aH hN;have c0:=aH.cell (i:=0) CM;replace HU:=hid (HU.out.below hN.out.2.1);replace HB:=aR HB hN.out.2.1;clear hN)|(refine fF rfl aH jQ qX.out.1 rfl ?_));refine(DP.out _ HU.out (HW.out.below HB.out HW.out.size)).mono ?_;rintro e w5 ⟨rfl,aM⟩;replace HB:=aR HB aM;clear aM HU DP aH c0;go_wp2_with fail;refine(HCU.out _ (HW.out.below HB.out HW.out.size)).mono ?_;rintro e w5 ⟨rfl,aM⟩;replace HB:=aR HB aM;clear aM HCU;cases z3 with
  |false=>replace HR:Hid (R=none):=hid (HR.out.trans (if_pos rfl));go_wp2_with fail;go_ret2;exact⟨by rw[HR.out];rfl,HB.out⟩
  |true=>
   replace HR:=hid (HR.out.trans (if_neg (by simp)));go_wp2_with fail;refine(HTP.out _).mono ?_;rintro e w6 ⟨rfl,rfl⟩;go_wp2_with fail;refine(rG.out _).mono ?_;rintro e w6 ⟨rfl,rfl⟩;go_wp2_with fail;refine(Xi.out _).mono ?_;rintro e w6 ⟨rfl,aM⟩;replace HB:=aR HB aM;clear aM Xi rG HTP;go_wp2_with fail;refine(LC.out _).mono ?_;rintro e w7 ⟨rfl,rfl⟩;cases hp:decide (b.head? =some 59) with
   |true=>
    have hHR:=HR.out;rw[if_pos (of_decide_eq_true hp)] at hHR;have CQ:=hid (HES.out (AS++b) (by rw[List.length_append];omega));have HAP:Hid ((⟨#[116,101,120,116,47,112,108,97,105,110]⟩:ByteArray)++aA b=aA (AS++b)):=hid (by rw[iM];rfl);have anF:(aA b).size≤100000000:=by rw[aD];exact lA
    replace HR:=hid hHR;generalize AS++b=pb at*;clear hHR hp FW;cases ho:uT pb with
    |none=>rw[ho] at HR CQ;have hap:=HAP.out;go_wp2_with fail;refine(CQ.out _ (HW.out.below HB.out HW.out.size)).mono ?_;rintro e w8 ⟨rfl,aM⟩;replace HB:=aR HB aM;clear aM;simp only[PQ];go_wp2_with fail;go_ret2;exact⟨by rw[HR.out];rfl,HB.out⟩
    |some o=>rw[ho] at HR CQ;have hap:=HAP.out;go_wp2_with fail;refine(CQ.out _ (HW.out.below HB.out HW.out.size)).mono ?_;rintro e w8 ⟨rfl,aM⟩;replace HB:=aR HB aM;clear aM;simp only[PQ];go_wp2_with fail;go_ret2;exact⟨by rw[HR.out];rfl,HB.out⟩
   |false=>
    have hHR:=HR.out;rw[if_neg (of_decide_eq_false hp)] at hHR;have CQ:=hid (HES.out b (by omega));have HAP:Hid (True):=hid trivial;replace HR:=hid hHR;clear hHR hp FW;cases ho:uT b with
    |none=>rw[ho] at HR CQ;have hap:=HAP.out;go_wp2_with fail;refine(CQ.out _ (HW.out.below HB.out HW.out.size)).mono ?_;rintro e w8 ⟨rfl,aM⟩;replace HB:=aR HB aM;clear aM;simp only[PQ];go_wp2_with fail;go_ret2;exact⟨by rw[HR.out];rfl,HB.out⟩
    |some o=>rw[ho] at HR CQ;have hap:=HAP.out;go_wp2_with fail;refine(CQ.out _ (HW.out.below HB.out HW.out.size)).mono ?_;rintro e w8 ⟨rfl,aM⟩;replace HB:=aR HB aM;clear aM;simp only[PQ];go_wp2_with fail;go_ret2;exact⟨by rw[HR.out];rfl,HB.out⟩
 ·replace HR:Hid (R=none):=hid (HR.out.trans (if_pos hd));have he:((aA u.scheme).toList !=[100,97,116,97])=true:=by rw[Co,bne_iff_ne];exact hd
  have JN:((aA u.scheme).toList==[100,97,116,97])=false:=by rw[Co,beq_eq_false_iff_ne];exact hd
  generalize aA u.scheme=sch at*;clear DP YC hlen Co hd;go_enter Tryz.func62,Tryz.ntmps62;go_wp2_with (first|(refine jH (arr:=arr) rfl rfl ?_;intro g1 w2 aH hN;have c0:=aH.cell (i:=0) CM;replace HB:=aR HB hN.out.2.1;clear hN));go_ret2;exact⟨by rw[HR.out];rfl,HB.out⟩
theorem tU {a b:Bool} (h:a=b):Ending.returned (.bool a)= .returned (.bool b):=by rw[h]
structure afQ (p:eH):Prop where
 n0:p.nS.length≤1000000000
 n1:p.vW.length≤1000000000
 n2:p.types.length≤1000000000
 vW:∀x∈p.vW,x.length≤1000000000
def pZ (w:World) (arr:Array Value) (p:eH):Prop:=∃v1 v2 v3,arr= #[v1,v2,v3,.int .i64 p.AT]∧bT w v1 (p.nS.map aA)∧bT w v2 (p.vW.map aA)∧bT w v3 (p.types.map aA)∧afQ p
theorem pZ.below {w w':World} {arr:Array Value} {p:eH} (h:pZ w arr p) (hb:Below w.heap.size w w'):pZ w' arr p:=by obtain⟨v1,v2,v3,rfl,h1,h2,h3,h4⟩:=h;exact⟨v1,v2,v3,rfl,h1.below hb,h2.below hb,h3.below hb,h4⟩
theorem pZ.dH {w:World} {arr:Array Value} {p:eH} (h:pZ w arr p):BD 4 arr:=by obtain⟨v1,v2,v3,rfl,h1,h2,h3,h4⟩:=h;obtain⟨a1,c1,rfl,_⟩:=h1.len;obtain⟨a2,c2,rfl,_⟩:=h2.len;obtain⟨a3,c3,rfl,_⟩:=h3.len;exact⟨rfl,by kernel_rfl⟩
section
variable {w:World} {arr:Array Value} {p:eH}
theorem pZ.cells (h:pZ w arr p):∃a1 c1 a2 c2 a3 c3,arr[0]? =some (.slice a1 p.nS.length c1)∧bT w (.slice a1 p.nS.length c1) (p.nS.map aA)∧arr[1]? =some (.slice a2 p.vW.length c2)∧bT w (.slice a2 p.vW.length c2) (p.vW.map aA)∧arr[2]? =some (.slice a3 p.types.length c3)∧bT w (.slice a3 p.types.length c3) (p.types.map aA)∧arr[3]? =some (.int .i64 p.AT):=by obtain⟨v1,v2,v3,rfl,h1,h2,h3,h4⟩:=h;obtain⟨a1,c1,rfl,_⟩:=h1.len;obtain⟨a2,c2,rfl,_⟩:=h2.len;obtain⟨a3,c3,rfl,_⟩:=h3.len;simp only[List.length_map] at h1 h2 h3⊢;exact⟨a1,c1,a2,c2,a3,c3,rfl,h1,rfl,h2,rfl,h3,rfl⟩
theorem KB (hp:pZ w arr p) (s:List UInt8):Calls Tryz.prog 60 #[.agg arr,.string (aA s)] w fun e w'=>e= .returned (.bool (p.nS.contains s))∧Below w.heap.size w w':=by obtain⟨a1,c1,a2,c2,a3,c3,e1,r1,e2,r2,e3,r3,e4⟩:=hp.cells;have hn:=hp.dH;obtain⟨v1,v2,v3,_,_,_,_,ok⟩:=hp;have HC:=hid (fun W (hb:Below w.heap.size w W)=>DN _ p.nS s W (r1.below hb) ok.n0);have HB:Hid (Below w.heap.size w w):=hid (Below.refl _ _);generalize p.nS.contains s=b at*;clear r1 r2 r3;go_enter Tryz.func60,Tryz.ntmps60;go_wp2_with (refine jH (arr:=arr) rfl rfl ?_;intro g w2 hr hN;replace HB:=aR HB hN.out.2.1;clear hN;have c:=hr.cell (i:=0) e1);refine(HC.out _ HB.out).mono ?_;rintro e w5 ⟨rfl,rfl⟩;go_wp2_with fail;go_ret;exact⟨rfl,HB.out⟩
theorem Qt (hp:pZ w arr p) (s:List UInt8):Calls Tryz.prog 63 #[.agg arr,.string (aA s)] w fun e w'=>e= .returned (.bool (p.types.contains s))∧Below w.heap.size w w':=by obtain⟨a1,c1,a2,c2,a3,c3,e1,r1,e2,r2,e3,r3,e4⟩:=hp.cells;have hn:=hp.dH;obtain⟨v1,v2,v3,_,_,_,_,ok⟩:=hp;have HC:=hid (fun W (hb:Below w.heap.size w W)=>DN _ p.types s W (r3.below hb) ok.n2);have HB:Hid (Below w.heap.size w w):=hid (Below.refl _ _);generalize p.types.contains s=b at*;clear r1 r2 r3;go_enter Tryz.func63,Tryz.ntmps63;go_wp2_with (refine jH (arr:=arr) rfl rfl ?_;intro g w2 hr hN;replace HB:=aR HB hN.out.2.1;clear hN;have c:=hr.cell (i:=2) e3);refine(HC.out _ HB.out).mono ?_;rintro e w5 ⟨rfl,rfl⟩;go_wp2_with fail;go_ret;exact⟨rfl,HB.out⟩
end
theorem TF:∀b3 k2 b4 b5 b9:Bool,b9=(b3&&(k2&&(b4&&b5)))→(b3=false∧b9=false)∨(b3=true∧k2=false∧b9=false)∨(b3=true∧k2=true∧b4=false∧b9=false)∨(b3=true∧k2=true∧b4=true∧b9=b5):=by decide
def UP (h:lK) (a:List UInt8):Bool:=(a==oZ h||a==[42])||(([46].isPrefixOf a&&(((h.kind:Int)==2)&&(decide (a.length < h.name.length)&&a.isSuffixOf h.name))))
theorem aaG (p:eH) (h:lK):oC J0 p h=if h.kind=0∨h.kind=1 then true else p.vW.any (UP h):=by
 unfold oC;congr 2;funext a;unfold UP;have e1:((h.kind:Int)==2)=(h.kind==2):=by rw[Bool.eq_iff_iff];simp only[beq_iff_eq];omega
 rw[e1];simp only[Bool.and_assoc];rfl
theorem D1 (h:lK) (h8:h.six.length=8):BD 11 (cL h):=by obtain⟨x0,x1,x2,x3,x4,x5,x6,x7,e⟩:=eight h8;unfold cL;rw[e];exact⟨rfl,by kernel_rfl⟩
theorem KC (h:lK):(cL h)[0]? =some (.int .i64 (h.kind:Int))∧(cL h)[1]? =some (.string (aA h.name)):=⟨rfl,rfl⟩
theorem Qu {w:World} {arr:Array Value} {p:eH} (hp:pZ w arr p) (h:lK) (ho:nO h) (hW:Laid w):Calls Tryz.prog 61 #[.agg arr,.agg (cL h)] w fun e w'=>e= .returned (.bool (oC J0 p h))∧Below w.heap.size w w':=by
 obtain⟨a1,c1,a2,c2,a3,c3,e1,r1,e2,r2,e3,r3,e4⟩:=hp.cells;have hn:=hp.dH;obtain⟨v1,v2,v3,_,_,_,_,ok⟩:=hp;have HW:=hid hW;have HR:=hid (aaG p h);have Tt:=hid (D1 h ho.six);have HHW:=hid (fun W hW=>Jd h ho W hW);obtain⟨f1,f2⟩:=KC h;have HV:=hid r2;have F9:=hid (And.intro ok.vW (And.intro ok.n1 ho.name));have HF:Hid (∀a,UP h a=((a==oZ h||a==[42])||(([46].isPrefixOf a&&(((h.kind:Int)==2)&&(decide (a.length < h.name.length)&&a.isSuffixOf h.name)))))):=hid (fun a=>rfl);generalize UP h=F at*;have Ec:((h.kind:Int)==0)=decide (h.kind=0):=by rw[Bool.eq_iff_iff];simp only[beq_iff_eq,decide_eq_true_eq];omega
 have alS:((h.kind:Int)==1)=decide (h.kind=1):=by rw[Bool.eq_iff_iff];simp only[beq_iff_eq,decide_eq_true_eq];omega
 generalize oZ h=hw at*;generalize ZF:h.name=nm at*;generalize hk:((h.kind:Int)==2)=k2 at*;generalize oC J0 p h=R at*;have HB:Hid (Below w.heap.size w w):=hid (Below.refl _ _);clear r1 r2 r3 hn hW e1 e3 e4 ok ho;by_cases zP:h.kind=0∨h.kind=1
 ·have HX:Hid (R=true):=hid (HR.out.trans (if_pos zP));have dO:decide (h.kind=0)=true∨(decide (h.kind=0)=false∧decide (h.kind=1)=true):=by rcases zP with h|h<;>simp[h]
  clear HR zP hk;rcases dO with e|⟨e,e'⟩;·rw[e] at Ec;go_enter Tryz.func61,Tryz.ntmps61;go_wp2_with (first|(refine jH (d:=2) (arr:=arr) rfl rfl ?_;intro g w2 hr hN;replace HB:=aR HB hN.out.2.1;clear hN)|(refine jH (d:=3) (arr:=(cL h)) rfl rfl ?_;intro g3 w3 Fj hN;replace HB:=aR HB hN.out.2.1;clear hN;have c:=Fj.cell (i:=0) f1));go_ret;exact⟨tU HX.out.symm,HB.out⟩
  ·rw[e] at Ec;rw[e'] at alS;go_enter Tryz.func61,Tryz.ntmps61;go_wp2_with (first|(refine jH (d:=2) (arr:=arr) rfl rfl ?_;intro g w2 hr hN;replace HB:=aR HB hN.out.2.1;clear hN)|(refine jH (d:=3) (arr:=(cL h)) rfl rfl ?_;intro g3 w3 Fj hN;replace HB:=aR HB hN.out.2.1;clear hN;have c:=Fj.cell (i:=0) f1));go_ret;exact⟨tU HX.out.symm,HB.out⟩
 ·replace HR:=hid (HR.out.trans (if_neg zP));have e:decide (h.kind=0)=false:=by simp;exact fun e=>zP (.inl e)
  have e':decide (h.kind=1)=false:=by simp;exact fun e=>zP (.inr e)
  rw[e] at Ec;rw[e'] at alS;clear zP e e';generalize p.vW=L at*;go_enter Tryz.func61,Tryz.ntmps61;go_wp2_with (first|(refine jH (d:=2) (arr:=arr) rfl rfl ?_;intro g w2 hr hN;replace HB:=aR HB hN.out.2.1;clear hN)|(refine jH (d:=3) (arr:=(cL h)) rfl rfl ?_;intro g3 w3 Fj hN;replace hr:=hr.below hN.out.2.1;replace HB:=aR HB hN.out.2.1;clear hN;have c:=Fj.cell (i:=0) f1)|(refine fF rfl Fj R32 Tt.out.1 rfl ?_));refine(HHW.out _ (HW.out.below HB.out HW.out.size)).mono ?_;rintro e w5 ⟨rfl,aM⟩;replace hr:=hr.below aM;replace Fj:=Fj.below aM;replace HB:=aR HB aM;clear aM c HHW;have c:=hr.cell (i:=1) e2;have d0:=Fj.cell (i:=0) f1;have d1:=Fj.cell (i:=1) f2;have HRR:=hid Fj;have HV5:=hid (HV.out.below HB.out);go_wp2_with fail;clear c hr HV;go_loopg [21] L.length (fun gk i wr=>∃k:Nat,gk=L.length - k∧i= .int .i64 (k:Int)∧k≤L.length∧Hid (R=(L.drop k).any F)∧w5=wr);case atStart=>exact⟨0,rfl,rfl,Nat.zero_le _,hid (by rw[HR.out];rfl),rfl⟩
  case round=>
   obtain⟨k,rfl,rfl,mE,HA,rfl⟩:=hrel;by_cases bC:k < L.length
   ·have HLT:=hid bC;have XO:k < (L.map aA).length:=by simpa using bC
    obtain⟨gp,off,hgp,aW⟩:=HV5.out.cellAt XO;rw[List.getElem_map] at aW;have hA:=HA.out;rw[List.drop_eq_getElem_cons bC,List.any_cons] at hA;have hal:=F9.out.1 L[k] (List.getElem_mem bC);have hFa:=HF.out L[k];subst hgp;have LC:Hid (∀W,Calls Tryz.prog 65 #[.string (aA L[k]),.string ⟨#[46]⟩] W fun e w'=>e= .returned (.bool ([46].isPrefixOf L[k]))∧W=w'):=hid (fun W=>jU L[k] [46] W);have HSX:=hid (fun W=>xD nm L[k] (by have:=F9.out.2.2;omega) W);have rX:=aD L[k];have qL:=aD nm;have q1:((aA L[k]).toList==(aA hw).toList)=(L[k]==hw):=by rw[oK,oK]
    have q2:((aA L[k]).toList==[42])=(L[k]==[42]):=by rw[oK]
    generalize L[k]=a at*;have q3:decide ((aA a).size < (aA nm).size)=decide (a.length < nm.length):=by rw[rX,qL]
    clear rX qL hal HA XO;generalize (a==hw)=b1 at*;generalize (a==[42])=b2 at*;generalize ([46]:List UInt8).isPrefixOf a=b3 at*;generalize decide (a.length < nm.length)=b4 at*;generalize a.isSuffixOf nm=b5 at*;have HFA:=hid hFa;have HAN:=hid hA;clear hFa hA;go_upto_region 7 with fail
    go_cut [31] (fun v wc=>v= .bool (b1||b2)∧w5=wc);case first=>
     cases b1<;>
     ·go_wp2_with fail
      go_meet
      case rel=>exact⟨rfl,rfl⟩
    case rest=>
     obtain⟨rfl,rfl⟩:=hcut;cases xH:(b1||b2) with
     |true=>have HX:Hid (R=true):=hid (by rw[HAN.out,HFA.out,xH];rfl);clear xH;go_wp2_with fail;go_ret;exact⟨tU HX.out.symm,HB.out⟩
     |false=>
      rw[xH] at HFA;clear xH q1 q2;obtain⟨b9,sK⟩:∃b9,b9=(b3&&(k2&&(b4&&b5))):=⟨_,rfl⟩;rw[←sK,Bool.false_or] at HFA;go_upto_region 9 with fail
      go_cut [52] (fun v wc=>v= .bool b9∧w5=wc);case first=>
       have dO:=TF b3 k2 b4 b5 b9 sK;clear sK HFA HAN;rcases dO with⟨rfl,rfl⟩|⟨rfl,rfl,rfl⟩|⟨rfl,rfl,rfl,rfl⟩|⟨rfl,rfl,rfl,rfl⟩
       ·go_wp2_with fail;refine(LC.out _).mono ?_;rintro e w6 ⟨rfl,rfl⟩;go_wp2_with fail
        go_meet
        case rel=>exact⟨rfl,rfl⟩
       ·go_wp2_with fail;refine(LC.out _).mono ?_;rintro e w6 ⟨rfl,rfl⟩;go_wp2_with fail
        go_meet
        case rel=>exact⟨rfl,rfl⟩
       ·go_wp2_with fail;refine(LC.out _).mono ?_;rintro e w6 ⟨rfl,rfl⟩;go_wp2_with fail
        go_meet
        case rel=>exact⟨rfl,rfl⟩
       ·go_wp2_with fail;refine(LC.out _).mono ?_;rintro e w6 ⟨rfl,rfl⟩;go_wp2_with fail;refine(HSX.out _).mono ?_;rintro e w6 ⟨rfl,rfl⟩;go_wp2_with fail
        go_meet
        case rel=>exact⟨rfl,rfl⟩
      case rest=>
       obtain⟨rfl,rfl⟩:=hcut;cases hb:b9 with
       |true=>subst hb;have HX:Hid (R=true):=hid (by rw[HAN.out,HFA.out];rfl);clear sK;go_wp2_with fail;go_ret;exact⟨tU HX.out.symm,HB.out⟩
       |false=>
        subst hb;have HX:Hid (R=(L.drop (k+1)).any F):=hid (by rw[HAN.out,HFA.out];rfl);clear sK;have hL:=F9.out.2.1;have bC:=HLT.out;go_wp2_with fail;go_roundg (L.length - (k+1));case measure=>have:=HLT.out;omega
        case rel=>exact⟨k+1,rfl,by go_num,HLT.out,HX,by first|trivial|rfl⟩
   ·have HX:Hid (R=false):=hid (by rw[HA.out,List.drop_of_length_le (by omega)];rfl);have hL:=F9.out.2.1;go_wp2_with fail;go_ret;exact⟨tU HX.out.symm,HB.out⟩
theorem xG {P:Program} {ops:Array Oper} {rest:List Oper} {o:Oper} {a:Act} {Q:Exit→Act→World→Prop} {w:World} (hw:Region.wanted o (yielded ops a.tmps)=true) (ty:TypeId) (x:Operand) (ho:o.op= .load ty x) (g i n:Nat) (hx:a.eval x= .pointer (some ⟨g,i,none⟩)) {t:TypeId} {arr:Array Value} (hR:Row w g t arr) (cs:Array Value) (AB:(arr.toList.drop i).take n=cs.toList) (hn:cs.size=n) (d:TypeDesc)
 (hu:P.underlying ty=some d) (hd:d.isRow=true) (hi:(P.info? ty).map (·.size)=some n)
 (h:wpList P ops Q rest (a.put o.dst (.agg cs)) w):wpList P ops Q (o::rest) a w:=by
 refine bF hw fun K hK=>?_;have hl:cs.toList.length=n:=by rw[Array.length_toList,hn]
 exact BB ty x ho g i hx hR cs.toList (by rw[hl];exact AB) d hu hd (by rw[hl];exact hi) (by simpa using hK _ _ h)
theorem cT.host {N:Nat→Prop} {w:World} {arr:Array Value} {u:bD} (h:cT N w arr u):(arr.toList.drop 3).take 11=(cL u.host).toList:=by obtain⟨pv,rfl,hp,hu⟩:=h;obtain⟨x0,x1,x2,x3,x4,x5,x6,x7,e⟩:=eight hu.host.six;unfold dP cL;rw[e];rfl
theorem KD {N:Nat→Prop} {w:World} {kY arr:Array Value} {p:eH} {u:bD} (hp:pZ w kY p) (hb:cT N w arr u) (hlen:(aQ J0 u true).length≤100000000) (hW:Laid w):
 Calls Tryz.prog 36 #[.agg kY,.agg arr] w fun e w'=>e= .returned (.bool (zF J0 p u))∧Below w.heap.size w w':=by
 have HW:=hid hW;have HU:=hid hb;have HP:=hid hp;have CM:=hb.cells.1;have qX:=hid hb.dH;have NH:=hid hp.dH;have HHO:=hid hb.host;have uok:nA u:=by obtain⟨pv,_,_,h⟩:=hb;exact h
 have HH1:=hid (D1 u.host uok.host.six).1;have HSC:=hid (fun W (h:pZ W kY p)=>KB h u.scheme);have HHC:=hid (fun W (h:pZ W kY p) hW=>Qu h u.host uok.host (w:=W) hW);have HDT:=hid (fun W (h:cT N W arr u) hW=>Xh h hlen (w:=W) hW);have HTY:=hid (fun W (h:pZ W kY p) e=>Qt h (w:=W) e);have HR:Hid (zF J0 p u=(p.nS.contains u.scheme&&oC J0 p u.host&&(u.scheme !=rE||(match KV J0 u with
  |some e=>p.types.contains e
  |none=>false)))):=hid rfl
 generalize zF J0 p u=R at*;have he:((aA u.scheme).toList !=[100,97,116,97])=(u.scheme !=rE):=by rw[oK];rfl
 generalize cL u.host=aoK at*;generalize aA u.scheme=sch at*;generalize p.nS.contains u.scheme=b1 at*;generalize oC J0 p u.host=b2 at*;generalize (u.scheme !=rE)=b3 at*;generalize KV J0 u=o at*;have HB:Hid (Below w.heap.size w w):=hid (Below.refl _ _);clear hp hW hb uok;go_enter Tryz.func36,Tryz.ntmps36;go_wp2_with (first|(refine jH (d:=2) (arr:=kY) rfl rfl ?_;intro g2 w2 rF hN;replace HB:=aR HB hN.out.2.1;clear hN)|(refine jH (d:=3) (arr:=arr) rfl rfl ?_;intro g3 w3 Fj hN;replace rF:=rF.below hN.out.2.1;replace HB:=aR HB hN.out.2.1;clear hN;have c:=Fj.cell (i:=0) CM)|(refine fF rfl rF R24 NH.out.1 rfl ?_));refine(HSC.out _ (HP.out.below HB.out)).mono ?_;rintro e w5 ⟨rfl,aM⟩;replace rF:=rF.below aM;replace Fj:=Fj.below aM;replace HB:=aR HB aM;clear aM HSC c;cases b1 with
 |false=>have HX:Hid (R=false):=HR;go_wp2_with fail;go_ret;exact⟨tU HX.out.symm,HB.out⟩
 |true=>
  go_wp2_with (first|(refine jR rfl 24 _ rfl g2 4 rfl rF _ Tryz.underlying24 rfl NH.out.1 (by kernel_rfl) ?_)|(refine xG rfl 32 _ rfl g3 3 11 rfl Fj aoK HHO.out HH1.out _ Tryz.underlying32 rfl (by kernel_rfl) ?_));refine(HHC.out _ (HP.out.below HB.out) (HW.out.below HB.out HW.out.size)).mono ?_;rintro e w5 ⟨rfl,aM⟩;replace rF:=rF.below aM;replace Fj:=Fj.below aM;replace HB:=aR HB aM;clear aM HHC;have c:=Fj.cell (i:=0) CM;cases b2 with
  |false=>have HX:Hid (R=false):=HR;go_wp2_with fail;go_ret;exact⟨tU HX.out.symm,HB.out⟩
  |true=>
   cases b3 with
   |true=>
    have HX:Hid (R=true):=HR;have JN:(sch.toList==[100,97,116,97])=false:=by cases hq:(sch.toList==[100,97,116,97]) with
     |true=>rw[bne,hq] at he;cases he
     |false=>rfl
    go_wp2_with fail;go_ret;exact⟨tU HX.out.symm,HB.out⟩
   |false=>
    have JN:(sch.toList==[100,97,116,97])=true:=by cases hq:(sch.toList==[100,97,116,97]) with
     |false=>rw[bne,hq] at he;cases he
     |true=>rfl
    go_wp2_with (refine fF rfl Fj jQ qX.out.1 rfl ?_);refine(HDT.out _ (HU.out.below HB.out) (HW.out.below HB.out HW.out.size)).mono ?_;rintro e w5 ⟨rfl,aM⟩;replace rF:=rF.below aM;replace HB:=aR HB aM;clear aM HDT c Fj;cases o with
    |none=>have HX:Hid (R=false):=HR;simp only[PQ];go_wp2_with fail;go_ret;exact⟨tU HX.out.symm,HB.out⟩
    |some e0=>have HT:=hid (fun W h=>HTY.out W h e0);have HX:Hid (R=p.types.contains e0):=HR;generalize p.types.contains e0=b4 at*;clear HTY HR;simp only[PQ];go_wp2_with (refine jR rfl 24 _ rfl g2 4 rfl rF _ Tryz.underlying24 rfl NH.out.1 (by kernel_rfl) ?_);refine(HT.out _ (HP.out.below HB.out)).mono ?_;rintro e w5 ⟨rfl,aM⟩;replace HB:=aR HB aM;clear aM;go_wp2_with fail;go_ret;exact⟨tU HX.out.symm,HB.out⟩
def afR (d:List UInt8) (b:Bool) (u:List UInt8):List UInt8:=if b then d++U7++u else d
theorem KE (d:List UInt8) (b:Bool) (u:List UInt8) (hd:d.length≤1000000000) (hu:u.length≤1000000000) (w:World):Calls Tryz.prog 40 #[.agg (nP d b u)] w fun e w'=>e= .returned (.string (aA (afR d b u)))∧Below w.heap.size w w':=by
 have h1:(aA d).size≤1000000000:=by rw[aD];exact hd
 have h2:(aA u).size≤1000000000:=by rw[aD];exact hu
 have h3:(aA d++(⟨#[59,32,117,114,108,61]⟩:ByteArray)).size≤1000000006:=by rw[ByteArray.size_append];show _+6≤_;omega
 have HB:Hid (Below w.heap.size w w):=hid (Below.refl _ _);have HS:Hid ((aA d++(⟨#[59,32,117,114,108,61]⟩:ByteArray))++aA u=aA (d++U7++u)):=hid (by rw[iM,iM];rfl);cases b with
 |false=>go_enter Tryz.func40,Tryz.ntmps40;go_wp2_with (refine jH (arr:=(nP d false u)) rfl rfl ?_;intro g w2 hr hN;replace HB:=aR HB hN.out.2.1;clear hN;have c0:w2.cell? ⟨g,0,none⟩=some (.string (aA d)):=hr.cell rfl;have c1:w2.cell? ⟨g,1,none⟩=some (.bool false):=hr.cell rfl);go_ret;exact⟨rfl,HB.out⟩
 |true=>go_enter Tryz.func40,Tryz.ntmps40;go_wp2_with (refine jH (arr:=(nP d true u)) rfl rfl ?_;intro g w2 hr hN;replace HB:=aR HB hN.out.2.1;clear hN;have c0:w2.cell? ⟨g,0,none⟩=some (.string (aA d)):=hr.cell rfl;have c1:w2.cell? ⟨g,1,none⟩=some (.bool true):=hr.cell rfl;have c2:w2.cell? ⟨g,2,none⟩=some (.string (aA u)):=hr.cell rfl);go_ret;exact⟨nN HS.out,HB.out⟩
def Ag (u:ByteArray) (wv:Value) (c:vY):Array Value:= #[.string u,wv,.bool c.Ma,.int .i64 (c.wide:Int),.bool c.Mb,.int .i64 (c.high:Int),.bool c.Mc,.float .f64 c.dens]
def sZ:Array Value:=Ag ⟨#[]⟩ (.slice none 0 0) {}
def aaH (o:Option vY) (g:Nat) (c:vY) (w:World) (e:Ending) (w':World):Prop:=e= .returned (.bool o.isSome)∧bL g w w'∧Row w' g 92 (Ag ⟨#[]⟩ (.slice none 0 0) (o.getD c))
theorem TG (c:vY) (t:List UInt8) (q:UInt8):takeN c (t++[q])=
 if q=119 then match fJ t with
  |none=>none
  |some n=>if n < 1∨c.Ma=true∨c.Mc=true then none else some {c with Ma:=true,wide:=n}
 else if q=104 then match fJ t with
  |none=>none
  |some n=>if n < 1∨c.Mb=true∨c.Mc=true then none else some {c with Mb:=true,high:=n}
 else if q=120 then match zG t with
  |none=>none
  |some f=>if geF f=false∨c.Ma=true∨c.Mb=true∨c.Mc=true then none else some {c with Mc:=true,dens:=f}
 else none:=by
 unfold takeN;rw[List.getLast?_concat,List.dropLast_concat];rfl
theorem yP (q:UInt8) (n:Nat) (hn:n < 256):((q.toNat:Int)==(n:Int))=(q==UInt8.ofNat n):=by
 rw[Bool.eq_iff_iff];simp only[beq_iff_eq];have h:(UInt8.ofNat n).toNat=n:=by simp[UInt8.toNat_ofNat',Nat.mod_eq_of_lt hn]
 rw[←UInt8.toNat_inj,h];omega
theorem aiU (f:Nat):(FloatKind.f64.format.order f 0==some Ordering.gt||FloatKind.f64.format.order f 0==some Ordering.eq)=geF f:=rfl
set_option maxRecDepth 1000000 in
theorem Qv (g:Nat) (c:vY) (word:List UInt8) (hl:word.length≤1000000000) (w:World) (hW:Laid w) (hR:Row w g 92 (Ag ⟨#[]⟩ (.slice none 0 0) c)):
 Calls Tryz.prog 114 #[.pointer (some ⟨g,0,none⟩),.string (aA word)] w fun e w'=>aaH (takeN c word) g c w e w':=by
 have HS:Hid (bL g w w):=hid (bL.refl g w);rcases sV word with rfl|⟨t,q,rfl⟩;have hz:((aA []).toList==[])=true:=by rw[ByteArray.toList_eq,aC];rfl
 have qL:(aA []).toList.isEmpty=true:=by rw[cC];rfl
 have tg:=Tg.k 0;rotate_left;obtain⟨eG,rL,hk,e1,hg,he,hxz⟩:=vA t q (by omega);have ht:t.length≤1000000000:=by simp at hl;omega
 have HN:=hid (fun W=>oT t ht W);have HF:=hid (fun W hW=>M4 t ht W hW);have hT:=TG c t q;generalize takeN c (t++[q])=R at*;have Kj:((q.toNat:Int)==119)=(q==119):=yP q 119 (by decide);have Lb:((q.toNat:Int)==104)=(q==104):=yP q 104 (by decide);have hq3:((q.toNat:Int)==120)=(q==120):=yP q 120 (by decide);have HW:=hid hW;generalize aA (t++[q])=x at*;generalize t.length=k at*;obtain⟨b1,n1,b2,n2,b3,f3⟩:=c;simp only[Ag] at hR;simp only at hT;clear hW hl ht;by_cases c1:q=119;rw[if_pos c1] at hT;have Co:(q==119)=true:=by simpa using c1
 rw[Co] at Kj;clear Lb hq3 HF HW c1 Co;rcases hw:fJ t with _|n;rw[hw] at hT HN;have HR:=hid hT;simp only[vG] at HN;clear hT hw;have tg:=Tg.k 1;rotate_left;rw[hw] at hT HN;simp only[vG] at HN;simp only at hT;clear hw;have d1:=hR.cell (i:=2) rfl;have d2:=hR.cell (i:=6) rfl;have sE:(0:Int)≤(n:Int):=by omega
 have dO:n < 1∨(1≤n∧b1=true)∨(1≤n∧b1=false∧b3=true)∨(1≤n∧b1=false∧b3=false):=by
  rcases Nat.lt_or_ge n 1 with h|h;·exact Or.inl h
  ·cases b1<;>cases b3<;>simp[h]
 rcases dO with h|⟨h,rfl⟩|⟨h,rfl,rfl⟩|⟨h,rfl,rfl⟩;have HR:=hid (hT.trans (if_pos (Or.inl h)));have hd:decide ((n:Int) < 1)=true:=by simp;omega
 clear hT;have tg:=Tg.k 2;rotate_left;have HR:=hid (hT.trans (if_pos (by simp)));have hd:decide ((n:Int) < 1)=false:=by simp;omega
 clear hT;have tg:=Tg.k 3;rotate_left;have HR:=hid (hT.trans (if_pos (by simp)));have hd:decide ((n:Int) < 1)=false:=by simp;omega
 clear hT;have tg:=Tg.k 4;rotate_left;have HR:=hid (hT.trans (if_neg (by simp;omega)));have hd:decide ((n:Int) < 1)=false:=by simp;omega
 clear hT;have tg:=Tg.k 5;rotate_left;rw[if_neg c1] at hT;have Co:(q==119)=false:=by simpa using c1
 rw[Co] at Kj;by_cases c2:q=104;rw[if_pos c2] at hT;have We:(q==104)=true:=by simpa using c2
 rw[We] at Lb;clear hq3 HF HW c1 Co c2 We;rcases hw:fJ t with _|n;rw[hw] at hT HN;have HR:=hid hT;simp only[vG] at HN;clear hT hw;have tg:=Tg.k 6;rotate_left;rw[hw] at hT HN;simp only[vG] at HN;simp only at hT;clear hw;have d1:=hR.cell (i:=4) rfl;have d2:=hR.cell (i:=6) rfl;have sE:(0:Int)≤(n:Int):=by omega
 have dO:n < 1∨(1≤n∧b2=true)∨(1≤n∧b2=false∧b3=true)∨(1≤n∧b2=false∧b3=false):=by
  rcases Nat.lt_or_ge n 1 with h|h;·exact Or.inl h
  ·cases b2<;>cases b3<;>simp[h]
 rcases dO with h|⟨h,rfl⟩|⟨h,rfl,rfl⟩|⟨h,rfl,rfl⟩;have HR:=hid (hT.trans (if_pos (Or.inl h)));have hd:decide ((n:Int) < 1)=true:=by simp;omega
 clear hT;have tg:=Tg.k 7;rotate_left;have HR:=hid (hT.trans (if_pos (by simp)));have hd:decide ((n:Int) < 1)=false:=by simp;omega
 clear hT;have tg:=Tg.k 8;rotate_left;have HR:=hid (hT.trans (if_pos (by simp)));have hd:decide ((n:Int) < 1)=false:=by simp;omega
 clear hT;have tg:=Tg.k 9;rotate_left;have HR:=hid (hT.trans (if_neg (by simp;omega)));have hd:decide ((n:Int) < 1)=false:=by simp;omega
 clear hT;have tg:=Tg.k 10;rotate_left;rw[if_neg c2] at hT;have We:(q==104)=false:=by simpa using c2
 rw[We] at Lb;by_cases c3:q=120;rw[if_pos c3] at hT;have hs3:(q==120)=true:=by simpa using c3
 rw[hs3] at hq3;have Kg:=hid (Nat.le_of_lt hR.lt);clear HN c1 Co c2 We c3 hs3;rcases hw:zG t with _|f;rw[hw] at hT HF;have HR:=hid hT;simp only[ahY] at HF;clear hT hw;have tg:=Tg.k 11;rotate_left;rw[hw] at hT HF;simp only[ahY] at HF;simp only at hT;clear hw;have Ao:=aiU f;have dO:(geF f=false)∨(geF f=true∧b1=true)∨(geF f=true∧b1=false∧b2=true)∨(geF f=true∧b1=false∧b2=false∧b3=true)∨(geF f=true∧b1=false∧b2=false∧b3=false):=by cases geF f<;>cases b1<;>cases b2<;>cases b3<;>simp
 rcases dO with h|⟨h,rfl⟩|⟨h,rfl,rfl⟩|⟨h,rfl,rfl,rfl⟩|⟨h,rfl,rfl,rfl⟩<;>(rw[h] at Ao);have HR:=hid (hT.trans (if_pos (by simp[h])));clear hT h;have tg:=Tg.k 12;rotate_left;have HR:=hid (hT.trans (if_pos (by simp[h])));clear hT h;have tg:=Tg.k 13;rotate_left;have HR:=hid (hT.trans (if_pos (by simp[h])));clear hT h;have tg:=Tg.k 14;rotate_left;have HR:=hid (hT.trans (if_pos (by simp[h])));clear hT h;have tg:=Tg.k 15;rotate_left;have HR:=hid (hT.trans (if_neg (by simp[h])));clear hT h;have tg:=Tg.k 16;rotate_left;rw[if_neg c3] at hT;have hs3:(q==120)=false:=by simpa using c3
 rw[hs3] at hq3;have HR:=hid hT;clear HN HF HW c1 Co c2 We c3 hs3 hT;have tg:=Tg.k 17;all_goals
  go_enter Tryz.func114,Tryz.ntmps114;go_wp2_with fail;first
  |(first|have:Tg 0:=tg|have:Tg 17:=tg)
  |first
   |(first|have:Tg 11:=tg|have:Tg 12:=tg|have:Tg 13:=tg|have:Tg 14:=tg|have:Tg 15:=tg|have:Tg 16:=tg)
    refine(HF.out _ HW.out).mono ?_;rintro e w5 ⟨rfl,aM⟩;replace HS:=hid (HS.out.below aM Kg.out);replace hR:=hR.below aM;first
    |have:Tg 11:=tg
    |have d1:=hR.cell (i:=2) rfl;have d2:=hR.cell (i:=4) rfl;have d3:=hR.cell (i:=6) rfl
    clear aM
   |refine(HN.out _).mono ?_;rintro e w' ⟨rfl,rfl⟩
   go_wp2_with (first|(refine oU 2 rfl hR rfl I4 ?_;intro w1 aH aB;replace HS:=hid (HS.out.trans (bL.of aB));replace hR:=aH;clear aB aH;simp[Act.eval] at hR)|(refine oU 3 rfl hR rfl I3 ?_;intro w1 aH aB;replace HS:=hid (HS.out.trans (bL.of aB));replace hR:=aH;clear aB aH;simp[Act.eval] at hR)|(refine oU 4 rfl hR rfl I4 ?_;intro w1 aH aB;replace HS:=hid (HS.out.trans (bL.of aB));replace hR:=aH;clear aB aH;simp[Act.eval] at hR)|(refine oU 5 rfl hR rfl I3 ?_;intro w1 aH aB;replace HS:=hid (HS.out.trans (bL.of aB));replace hR:=aH;clear aB aH;simp[Act.eval] at hR)|(refine oU 6 rfl hR rfl I4 ?_;intro w1 aH aB;replace HS:=hid (HS.out.trans (bL.of aB));replace hR:=aH;clear aB aH;simp[Act.eval] at hR)|(refine oU 7 rfl hR rfl I90 ?_;intro w1 aH aB;replace HS:=hid (HS.out.trans (bL.of aB));replace hR:=aH;clear aB aH;simp[Act.eval] at hR))
  go_ret;first
  |have:Tg 0:=tg;exact⟨rfl,HS.out,hR⟩
  |exact⟨aZ (by rw[HR.out];rfl),HS.out,by rw[HR.out];exact hR⟩
end Go.Proofs.YtmgmclkplepapaaGreatDoor
