/- Part of the proof of TopBoundsUptoCardSaid. Conditions: none beyond the statement. -/
import Derived.Test.YtmgmclkplepapaaGreatDoorPt30
import Derived.Test.YtmgmclkplepapaaGreatDoorPt44
set_option linter.all false
set_option maxRecDepth 100000
set_option maxHeartbeats 64000000
namespace Go.Proofs.YtmgmclkplepapaaGreatDoor
open Go.RowKit
theorem TD (u:bD):(aQ J0 u false).length≤(aQ J0 u true).length:=by unfold aQ;simp only[Bool.and_false,Bool.and_true,List.length_append];simp
theorem aaD (s:List UInt8):(sP (cE aI (iH (rD++[58]) s))).length≤s.length:=by
 have h1:=sO aI (iH (rD++[58]) s);have h2:(iH (rD++[58]) s).length≤s.length:=by
  unfold iH;split;·rw[List.length_drop];omega
  ·exact Nat.le_refl _
 have h3:∀t,(sP t).length≤t.length:=by
  intro t;unfold sP;simp only;have ht:=xD (· ==32) (t.take (t.length - 6));rw[List.length_take] at ht;split;·exact Nat.le_refl _
  ·split;·rw[List.length_dropLast];omega
   ·exact Nat.le_refl _
 exact Nat.le_trans (h3 _) (Nat.le_trans h1 h2)
theorem aaE (s:List UInt8) (q:UInt8):([q]:List UInt8).isPrefixOf s=decide (s.head? =some q):=by
 cases s with
 |nil=>rfl
 |cons a r=>simp[List.isPrefixOf];rw[Bool.eq_iff_iff];simp;exact eq_comm
theorem Xg {N:Nat→Prop} {w:World} {arr:Array Value} {u:bD} (hb:cT N w arr u) (hlen:(aQ J0 u true).length≤100000000) (hW:Laid w):Calls Tryz.prog 62 #[.agg arr] w fun e w'=>e= .returned (PO (KU J0 u))∧Below w.heap.size w w':=by
 have HW:=hid hW;have HU:=hid hb;have CL:=hb.cells.1;have qW:=hid hb.dH;have YB:=TD u;have HB:Hid (Below w.heap.size w w):=hid (Below.refl _ _);have DO:=hid (fun W (h:cT N W arr u) hW=>Ac h false (by omega) (w:=W) hW);have HR:Hid (KU J0 u=if u.scheme≠rD then none else(if(bM 44 (aQ J0 u false)).2.2=false then none else
  some ((uS (if(sP (cE aI (iH (rD++[58]) (bM 44 (aQ J0 u false)).1))).head? =some 59 then AR++sP (cE aI (iH (rD++[58]) (bM 44 (aQ J0 u false)).1)) else sP (cE aI (iH (rD++[58]) (bM 44 (aQ J0 u false)).1)))).getD AR))):=hid rfl
 generalize KU J0 u=R at*;have Cn:=oJ u.scheme;clear hb hW;by_cases hd:u.scheme=rD
 ·replace HR:=hid (HR.out.trans (if_neg (by simpa using hd)));have he:((aA u.scheme).toList !=[100,97,116,97])=false:=by rw[Cn,hd];rfl
  have JM:((aA u.scheme).toList==[100,97,116,97])=true:=by rw[Cn,hd];rfl
  generalize aA u.scheme=sch at*;generalize aQ J0 u false=s at*;have HCU:Hid (∀W,Laid W→Calls Tryz.prog 53 #[.string (aA s),.string ⟨#[44]⟩] W fun e w'=>e= .returned (.tuple #[.string (aA (bM 44 s).1),.string (aA (bM 44 s).2.1),.bool (bM 44 s).2.2])∧Below W.heap.size W w'):=hid (fun W hW=>oG s 44 (by omega) W hW);have oN:=DN 44 s;generalize bM 44 s=z at*;obtain⟨z1,z2,z3⟩:=z;simp only at HCU oN HR;have tE:=aaD z1;have HTP:Hid (∀W,Calls Tryz.prog 105 #[.string (aA z1),.string ⟨#[100,97,116,97,58]⟩] W fun e w'=>e= .returned (.string (aA (iH (rD++[58]) z1)))∧W=w'):=hid (fun W=>Bm z1 (rD++[58]) W);have Ar:(iH (rD++[58]) z1).length≤z1.length:=by
   unfold iH;split;·rw[List.length_drop];omega
   ·exact Nat.le_refl _
  generalize iH (rD++[58]) z1=t1 at*;have rF:=hid (fun W=>Oq t1 W (by omega));have IX:=sO aI t1;generalize cE aI t1=t2 at*;have Xh:=hid (fun W=>WM t2 (by omega) W);generalize sP t2=b at*;have LB:Hid (∀W,Calls Tryz.prog 65 #[.string (aA b),.string ⟨#[59]⟩] W fun e w'=>e= .returned (.bool (decide (b.head? =some 59)))∧W=w'):=hid (fun W=>by have:=jT b [59] W;rw[aaE] at this;exact this);have FV:AR.length=10:=rfl;have HES:=hid (fun x (hx:x.length≤100000010) W hW=>M4 x (by omega) W hW);have kZ:b.length≤100000000:=by omega
  clear oN tE Ar IX YB hlen Cn hd;go_enter Tryz.func62,Tryz.ntmps62;go_wp2_with (first|(refine jG (arr:=arr) rfl rfl ?_;intro g1 w2 aH hN;have c0:=aH.cell (i:=0) CL;replace HU:=hid (HU.out.below hN.out.2.1);replace HB:=aR HB hN.out.2.1;clear hN)|(refine fF rfl aH jP qW.out.1 rfl ?_));refine(DO.out _ HU.out (HW.out.below HB.out HW.out.size)).mono ?_;rintro e w5 ⟨rfl,aM⟩;replace HB:=aR HB aM;clear aM HU DO aH c0;go_wp2_with fail;refine(HCU.out _ (HW.out.below HB.out HW.out.size)).mono ?_;rintro e w5 ⟨rfl,aM⟩;replace HB:=aR HB aM;clear aM HCU;cases z3 with
  |false=>replace HR:Hid (R=none):=hid (HR.out.trans (if_pos rfl));go_wp2_with fail;go_ret2;exact⟨by rw[HR.out];rfl,HB.out⟩
  |true=>
   replace HR:=hid (HR.out.trans (if_neg (by simp)));go_wp2_with fail;refine(HTP.out _).mono ?_;rintro e w6 ⟨rfl,rfl⟩;go_wp2_with fail;refine(rF.out _).mono ?_;rintro e w6 ⟨rfl,rfl⟩;go_wp2_with fail;refine(Xh.out _).mono ?_;rintro e w6 ⟨rfl,aM⟩;replace HB:=aR HB aM;clear aM Xh rF HTP;go_wp2_with fail;refine(LB.out _).mono ?_;rintro e w7 ⟨rfl,rfl⟩;cases hp:decide (b.head? =some 59) with
   |true=>
    have hHR:=HR.out;rw[if_pos (of_decide_eq_true hp)] at hHR;have CP:=hid (HES.out (AR++b) (by rw[List.length_append];omega));have HAP:Hid ((⟨#[116,101,120,116,47,112,108,97,105,110]⟩:ByteArray)++aA b=aA (AR++b)):=hid (by rw[iL];rfl);have anE:(aA b).size≤100000000:=by rw[aD];exact kZ
    replace HR:=hid hHR;generalize AR++b=pb at*;clear hHR hp FV;cases ho:uS pb with
    |none=>rw[ho] at HR CP;have hap:=HAP.out;go_wp2_with fail;refine(CP.out _ (HW.out.below HB.out HW.out.size)).mono ?_;rintro e w8 ⟨rfl,aM⟩;replace HB:=aR HB aM;clear aM;simp only[PO];go_wp2_with fail;go_ret2;exact⟨by rw[HR.out];rfl,HB.out⟩
    |some o=>rw[ho] at HR CP;have hap:=HAP.out;go_wp2_with fail;refine(CP.out _ (HW.out.below HB.out HW.out.size)).mono ?_;rintro e w8 ⟨rfl,aM⟩;replace HB:=aR HB aM;clear aM;simp only[PO];go_wp2_with fail;go_ret2;exact⟨by rw[HR.out];rfl,HB.out⟩
   |false=>
    have hHR:=HR.out;rw[if_neg (of_decide_eq_false hp)] at hHR;have CP:=hid (HES.out b (by omega));have HAP:Hid (True):=hid trivial;replace HR:=hid hHR;clear hHR hp FV;cases ho:uS b with
    |none=>rw[ho] at HR CP;have hap:=HAP.out;go_wp2_with fail;refine(CP.out _ (HW.out.below HB.out HW.out.size)).mono ?_;rintro e w8 ⟨rfl,aM⟩;replace HB:=aR HB aM;clear aM;simp only[PO];go_wp2_with fail;go_ret2;exact⟨by rw[HR.out];rfl,HB.out⟩
    |some o=>rw[ho] at HR CP;have hap:=HAP.out;go_wp2_with fail;refine(CP.out _ (HW.out.below HB.out HW.out.size)).mono ?_;rintro e w8 ⟨rfl,aM⟩;replace HB:=aR HB aM;clear aM;simp only[PO];go_wp2_with fail;go_ret2;exact⟨by rw[HR.out];rfl,HB.out⟩
 ·replace HR:Hid (R=none):=hid (HR.out.trans (if_pos hd));have he:((aA u.scheme).toList !=[100,97,116,97])=true:=by rw[Cn,bne_iff_ne];exact hd
  have JM:((aA u.scheme).toList==[100,97,116,97])=false:=by rw[Cn,beq_eq_false_iff_ne];exact hd
  generalize aA u.scheme=sch at*;clear DO YB hlen Cn hd;go_enter Tryz.func62,Tryz.ntmps62;go_wp2_with (first|(refine jG (arr:=arr) rfl rfl ?_;intro g1 w2 aH hN;have c0:=aH.cell (i:=0) CL;replace HB:=aR HB hN.out.2.1;clear hN));go_ret2;exact⟨by rw[HR.out];rfl,HB.out⟩
theorem tT {a b:Bool} (h:a=b):Ending.returned (.bool a)= .returned (.bool b):=by rw[h]
structure afP (p:eH):Prop where
 n0:p.nR.length≤1000000000
 n1:p.vV.length≤1000000000
 n2:p.types.length≤1000000000
 vV:∀x∈p.vV,x.length≤1000000000
def pY (w:World) (arr:Array Value) (p:eH):Prop:=∃v1 v2 v3,arr= #[v1,v2,v3,.int .i64 p.AS]∧bT w v1 (p.nR.map aA)∧bT w v2 (p.vV.map aA)∧bT w v3 (p.types.map aA)∧afP p
theorem pY.below {w w':World} {arr:Array Value} {p:eH} (h:pY w arr p) (hb:Below w.heap.size w w'):pY w' arr p:=by obtain⟨v1,v2,v3,rfl,h1,h2,h3,h4⟩:=h;exact⟨v1,v2,v3,rfl,h1.below hb,h2.below hb,h3.below hb,h4⟩
theorem pY.dH {w:World} {arr:Array Value} {p:eH} (h:pY w arr p):BC 4 arr:=by obtain⟨v1,v2,v3,rfl,h1,h2,h3,h4⟩:=h;obtain⟨a1,c1,rfl,_⟩:=h1.len;obtain⟨a2,c2,rfl,_⟩:=h2.len;obtain⟨a3,c3,rfl,_⟩:=h3.len;exact⟨rfl,by kernel_rfl⟩
section
variable {w:World} {arr:Array Value} {p:eH}
theorem pY.cells (h:pY w arr p):∃a1 c1 a2 c2 a3 c3,arr[0]? =some (.slice a1 p.nR.length c1)∧bT w (.slice a1 p.nR.length c1) (p.nR.map aA)∧arr[1]? =some (.slice a2 p.vV.length c2)∧bT w (.slice a2 p.vV.length c2) (p.vV.map aA)∧arr[2]? =some (.slice a3 p.types.length c3)∧bT w (.slice a3 p.types.length c3) (p.types.map aA)∧arr[3]? =some (.int .i64 p.AS):=by obtain⟨v1,v2,v3,rfl,h1,h2,h3,h4⟩:=h;obtain⟨a1,c1,rfl,_⟩:=h1.len;obtain⟨a2,c2,rfl,_⟩:=h2.len;obtain⟨a3,c3,rfl,_⟩:=h3.len;simp only[List.length_map] at h1 h2 h3⊢;exact⟨a1,c1,a2,c2,a3,c3,rfl,h1,rfl,h2,rfl,h3,rfl⟩
theorem KA (hp:pY w arr p) (s:List UInt8):Calls Tryz.prog 60 #[.agg arr,.string (aA s)] w fun e w'=>e= .returned (.bool (p.nR.contains s))∧Below w.heap.size w w':=by obtain⟨a1,c1,a2,c2,a3,c3,e1,r1,e2,r2,e3,r3,e4⟩:=hp.cells;have hn:=hp.dH;obtain⟨v1,v2,v3,_,_,_,_,ok⟩:=hp;have HC:=hid (fun W (hb:Below w.heap.size w W)=>DM _ p.nR s W (r1.below hb) ok.n0);have HB:Hid (Below w.heap.size w w):=hid (Below.refl _ _);generalize p.nR.contains s=b at*;clear r1 r2 r3;go_enter Tryz.func60,Tryz.ntmps60;go_wp2_with (refine jG (arr:=arr) rfl rfl ?_;intro g w2 hr hN;replace HB:=aR HB hN.out.2.1;clear hN;have c:=hr.cell (i:=0) e1);refine(HC.out _ HB.out).mono ?_;rintro e w5 ⟨rfl,rfl⟩;go_wp2_with fail;go_ret;exact⟨rfl,HB.out⟩
theorem Qs (hp:pY w arr p) (s:List UInt8):Calls Tryz.prog 63 #[.agg arr,.string (aA s)] w fun e w'=>e= .returned (.bool (p.types.contains s))∧Below w.heap.size w w':=by obtain⟨a1,c1,a2,c2,a3,c3,e1,r1,e2,r2,e3,r3,e4⟩:=hp.cells;have hn:=hp.dH;obtain⟨v1,v2,v3,_,_,_,_,ok⟩:=hp;have HC:=hid (fun W (hb:Below w.heap.size w W)=>DM _ p.types s W (r3.below hb) ok.n2);have HB:Hid (Below w.heap.size w w):=hid (Below.refl _ _);generalize p.types.contains s=b at*;clear r1 r2 r3;go_enter Tryz.func63,Tryz.ntmps63;go_wp2_with (refine jG (arr:=arr) rfl rfl ?_;intro g w2 hr hN;replace HB:=aR HB hN.out.2.1;clear hN;have c:=hr.cell (i:=2) e3);refine(HC.out _ HB.out).mono ?_;rintro e w5 ⟨rfl,rfl⟩;go_wp2_with fail;go_ret;exact⟨rfl,HB.out⟩
end
theorem TE:∀b3 k2 b4 b5 b9:Bool,b9=(b3&&(k2&&(b4&&b5)))→(b3=false∧b9=false)∨(b3=true∧k2=false∧b9=false)∨(b3=true∧k2=true∧b4=false∧b9=false)∨(b3=true∧k2=true∧b4=true∧b9=b5):=by decide
def UO (h:lJ) (a:List UInt8):Bool:=(a==oY h||a==[42])||(([46].isPrefixOf a&&(((h.kind:Int)==2)&&(decide (a.length < h.name.length)&&a.isSuffixOf h.name))))
theorem aaF (p:eH) (h:lJ):oB J0 p h=if h.kind=0∨h.kind=1 then true else p.vV.any (UO h):=by
 unfold oB;congr 2;funext a;unfold UO;have e1:((h.kind:Int)==2)=(h.kind==2):=by rw[Bool.eq_iff_iff];simp only[beq_iff_eq];omega
 rw[e1];simp only[Bool.and_assoc];rfl
theorem D0 (h:lJ) (h8:h.six.length=8):BC 11 (cL h):=by obtain⟨x0,x1,x2,x3,x4,x5,x6,x7,e⟩:=eight h8;unfold cL;rw[e];exact⟨rfl,by kernel_rfl⟩
theorem KB (h:lJ):(cL h)[0]? =some (.int .i64 (h.kind:Int))∧(cL h)[1]? =some (.string (aA h.name)):=⟨rfl,rfl⟩
theorem Qt {w:World} {arr:Array Value} {p:eH} (hp:pY w arr p) (h:lJ) (ho:nN h) (hW:Laid w):Calls Tryz.prog 61 #[.agg arr,.agg (cL h)] w fun e w'=>e= .returned (.bool (oB J0 p h))∧Below w.heap.size w w':=by
 obtain⟨a1,c1,a2,c2,a3,c3,e1,r1,e2,r2,e3,r3,e4⟩:=hp.cells;have hn:=hp.dH;obtain⟨v1,v2,v3,_,_,_,_,ok⟩:=hp;have HW:=hid hW;have HR:=hid (aaF p h);have Ts:=hid (D0 h ho.six);have HHW:=hid (fun W hW=>Jc h ho W hW);obtain⟨f1,f2⟩:=KB h;have HV:=hid r2;have F8:=hid (And.intro ok.vV (And.intro ok.n1 ho.name));have HF:Hid (∀a,UO h a=((a==oY h||a==[42])||(([46].isPrefixOf a&&(((h.kind:Int)==2)&&(decide (a.length < h.name.length)&&a.isSuffixOf h.name)))))):=hid (fun a=>rfl);generalize UO h=F at*;have Eb:((h.kind:Int)==0)=decide (h.kind=0):=by rw[Bool.eq_iff_iff];simp only[beq_iff_eq,decide_eq_true_eq];omega
 have alQ:((h.kind:Int)==1)=decide (h.kind=1):=by rw[Bool.eq_iff_iff];simp only[beq_iff_eq,decide_eq_true_eq];omega
 generalize oY h=hw at*;generalize ZE:h.name=nm at*;generalize hk:((h.kind:Int)==2)=k2 at*;generalize oB J0 p h=R at*;have HB:Hid (Below w.heap.size w w):=hid (Below.refl _ _);clear r1 r2 r3 hn hW e1 e3 e4 ok ho;by_cases zO:h.kind=0∨h.kind=1
 ·have HX:Hid (R=true):=hid (HR.out.trans (if_pos zO));have dO:decide (h.kind=0)=true∨(decide (h.kind=0)=false∧decide (h.kind=1)=true):=by rcases zO with h|h<;>simp[h]
  clear HR zO hk;rcases dO with e|⟨e,e'⟩;·rw[e] at Eb;go_enter Tryz.func61,Tryz.ntmps61;go_wp2_with (first|(refine jG (d:=2) (arr:=arr) rfl rfl ?_;intro g w2 hr hN;replace HB:=aR HB hN.out.2.1;clear hN)|(refine jG (d:=3) (arr:=(cL h)) rfl rfl ?_;intro g3 w3 Fi hN;replace HB:=aR HB hN.out.2.1;clear hN;have c:=Fi.cell (i:=0) f1));go_ret;exact⟨tT HX.out.symm,HB.out⟩
  ·rw[e] at Eb;rw[e'] at alQ;go_enter Tryz.func61,Tryz.ntmps61;go_wp2_with (first|(refine jG (d:=2) (arr:=arr) rfl rfl ?_;intro g w2 hr hN;replace HB:=aR HB hN.out.2.1;clear hN)|(refine jG (d:=3) (arr:=(cL h)) rfl rfl ?_;intro g3 w3 Fi hN;replace HB:=aR HB hN.out.2.1;clear hN;have c:=Fi.cell (i:=0) f1));go_ret;exact⟨tT HX.out.symm,HB.out⟩
 ·replace HR:=hid (HR.out.trans (if_neg zO));have e:decide (h.kind=0)=false:=by simp;exact fun e=>zO (.inl e)
  have e':decide (h.kind=1)=false:=by simp;exact fun e=>zO (.inr e)
  rw[e] at Eb;rw[e'] at alQ;clear zO e e';generalize p.vV=L at*;go_enter Tryz.func61,Tryz.ntmps61;go_wp2_with (first|(refine jG (d:=2) (arr:=arr) rfl rfl ?_;intro g w2 hr hN;replace HB:=aR HB hN.out.2.1;clear hN)|(refine jG (d:=3) (arr:=(cL h)) rfl rfl ?_;intro g3 w3 Fi hN;replace hr:=hr.below hN.out.2.1;replace HB:=aR HB hN.out.2.1;clear hN;have c:=Fi.cell (i:=0) f1)|(refine fF rfl Fi R32 Ts.out.1 rfl ?_));refine(HHW.out _ (HW.out.below HB.out HW.out.size)).mono ?_;rintro e w5 ⟨rfl,aM⟩;replace hr:=hr.below aM;replace Fi:=Fi.below aM;replace HB:=aR HB aM;clear aM c HHW;have c:=hr.cell (i:=1) e2;have d0:=Fi.cell (i:=0) f1;have d1:=Fi.cell (i:=1) f2;have HRR:=hid Fi;have HV5:=hid (HV.out.below HB.out);go_wp2_with fail;clear c hr HV;go_loopg [21] L.length (fun gk i wr=>∃k:Nat,gk=L.length - k∧i= .int .i64 (k:Int)∧k≤L.length∧Hid (R=(L.drop k).any F)∧w5=wr);case atStart=>exact⟨0,rfl,rfl,Nat.zero_le _,hid (by rw[HR.out];rfl),rfl⟩
  case round=>
   obtain⟨k,rfl,rfl,mD,HA,rfl⟩:=hrel;by_cases bC:k < L.length
   ·have HLT:=hid bC;have XN:k < (L.map aA).length:=by simpa using bC
    obtain⟨gp,off,hgp,aW⟩:=HV5.out.cellAt XN;rw[List.getElem_map] at aW;have hA:=HA.out;rw[List.drop_eq_getElem_cons bC,List.any_cons] at hA;have hal:=F8.out.1 L[k] (List.getElem_mem bC);have hFa:=HF.out L[k];subst hgp;have LB:Hid (∀W,Calls Tryz.prog 65 #[.string (aA L[k]),.string ⟨#[46]⟩] W fun e w'=>e= .returned (.bool ([46].isPrefixOf L[k]))∧W=w'):=hid (fun W=>jT L[k] [46] W);have HSX:=hid (fun W=>xC nm L[k] (by have:=F8.out.2.2;omega) W);have rW:=aD L[k];have qK:=aD nm;have q1:((aA L[k]).toList==(aA hw).toList)=(L[k]==hw):=by rw[oJ,oJ]
    have q2:((aA L[k]).toList==[42])=(L[k]==[42]):=by rw[oJ]
    generalize L[k]=a at*;have q3:decide ((aA a).size < (aA nm).size)=decide (a.length < nm.length):=by rw[rW,qK]
    clear rW qK hal HA XN;generalize (a==hw)=b1 at*;generalize (a==[42])=b2 at*;generalize ([46]:List UInt8).isPrefixOf a=b3 at*;generalize decide (a.length < nm.length)=b4 at*;generalize a.isSuffixOf nm=b5 at*;have HFA:=hid hFa;have HAN:=hid hA;clear hFa hA;go_upto_region 7 with fail
    go_cut [31] (fun v wc=>v= .bool (b1||b2)∧w5=wc);case first=>
     cases b1<;>
     ·go_wp2_with fail
      go_meet
      case rel=>exact⟨rfl,rfl⟩
    case rest=>
     obtain⟨rfl,rfl⟩:=hcut;cases xG:(b1||b2) with
     |true=>have HX:Hid (R=true):=hid (by rw[HAN.out,HFA.out,xG];rfl);clear xG;go_wp2_with fail;go_ret;exact⟨tT HX.out.symm,HB.out⟩
     |false=>
      rw[xG] at HFA;clear xG q1 q2;obtain⟨b9,sJ⟩:∃b9,b9=(b3&&(k2&&(b4&&b5))):=⟨_,rfl⟩;rw[←sJ,Bool.false_or] at HFA;go_upto_region 9 with fail
      go_cut [52] (fun v wc=>v= .bool b9∧w5=wc);case first=>
       have dO:=TE b3 k2 b4 b5 b9 sJ;clear sJ HFA HAN;rcases dO with⟨rfl,rfl⟩|⟨rfl,rfl,rfl⟩|⟨rfl,rfl,rfl,rfl⟩|⟨rfl,rfl,rfl,rfl⟩
       ·go_wp2_with fail;refine(LB.out _).mono ?_;rintro e w6 ⟨rfl,rfl⟩;go_wp2_with fail
        go_meet
        case rel=>exact⟨rfl,rfl⟩
       ·go_wp2_with fail;refine(LB.out _).mono ?_;rintro e w6 ⟨rfl,rfl⟩;go_wp2_with fail
        go_meet
        case rel=>exact⟨rfl,rfl⟩
       ·go_wp2_with fail;refine(LB.out _).mono ?_;rintro e w6 ⟨rfl,rfl⟩;go_wp2_with fail
        go_meet
        case rel=>exact⟨rfl,rfl⟩
       ·go_wp2_with fail;refine(LB.out _).mono ?_;rintro e w6 ⟨rfl,rfl⟩;go_wp2_with fail;refine(HSX.out _).mono ?_;rintro e w6 ⟨rfl,rfl⟩;go_wp2_with fail
        go_meet
        case rel=>exact⟨rfl,rfl⟩
      case rest=>
       obtain⟨rfl,rfl⟩:=hcut;cases hb:b9 with
       |true=>subst hb;have HX:Hid (R=true):=hid (by rw[HAN.out,HFA.out];rfl);clear sJ;go_wp2_with fail;go_ret;exact⟨tT HX.out.symm,HB.out⟩
       |false=>
        subst hb;have HX:Hid (R=(L.drop (k+1)).any F):=hid (by rw[HAN.out,HFA.out];rfl);clear sJ;have hL:=F8.out.2.1;have bC:=HLT.out;go_wp2_with fail;go_roundg (L.length - (k+1));case measure=>have:=HLT.out;omega
        case rel=>exact⟨k+1,rfl,by go_num,HLT.out,HX,by first|trivial|rfl⟩
   ·have HX:Hid (R=false):=hid (by rw[HA.out,List.drop_of_length_le (by omega)];rfl);have hL:=F8.out.2.1;go_wp2_with fail;go_ret;exact⟨tT HX.out.symm,HB.out⟩
theorem xF {P:Program} {ops:Array Oper} {rest:List Oper} {o:Oper} {a:Act} {Q:Exit→Act→World→Prop} {w:World} (hw:Region.wanted o (yielded ops a.tmps)=true) (ty:TypeId) (x:Operand) (ho:o.op= .load ty x) (g i n:Nat) (hx:a.eval x= .pointer (some ⟨g,i,none⟩)) {t:TypeId} {arr:Array Value} (hR:Row w g t arr) (cs:Array Value) (AA:(arr.toList.drop i).take n=cs.toList) (hn:cs.size=n) (d:TypeDesc)
 (hu:P.underlying ty=some d) (hd:d.isRow=true) (hi:(P.info? ty).map (·.size)=some n)
 (h:wpList P ops Q rest (a.put o.dst (.agg cs)) w):wpList P ops Q (o::rest) a w:=by
 refine bF hw fun K hK=>?_;have hl:cs.toList.length=n:=by rw[Array.length_toList,hn]
 exact BA ty x ho g i hx hR cs.toList (by rw[hl];exact AA) d hu hd (by rw[hl];exact hi) (by simpa using hK _ _ h)
theorem cT.host {N:Nat→Prop} {w:World} {arr:Array Value} {u:bD} (h:cT N w arr u):(arr.toList.drop 3).take 11=(cL u.host).toList:=by obtain⟨pv,rfl,hp,hu⟩:=h;obtain⟨x0,x1,x2,x3,x4,x5,x6,x7,e⟩:=eight hu.host.six;unfold dP cL;rw[e];rfl
theorem KC {N:Nat→Prop} {w:World} {kX arr:Array Value} {p:eH} {u:bD} (hp:pY w kX p) (hb:cT N w arr u) (hlen:(aQ J0 u true).length≤100000000) (hW:Laid w):
 Calls Tryz.prog 36 #[.agg kX,.agg arr] w fun e w'=>e= .returned (.bool (zE J0 p u))∧Below w.heap.size w w':=by
 have HW:=hid hW;have HU:=hid hb;have HP:=hid hp;have CL:=hb.cells.1;have qW:=hid hb.dH;have NG:=hid hp.dH;have HHO:=hid hb.host;have uok:mZ u:=by obtain⟨pv,_,_,h⟩:=hb;exact h
 have HH1:=hid (D0 u.host uok.host.six).1;have HSC:=hid (fun W (h:pY W kX p)=>KA h u.scheme);have HHC:=hid (fun W (h:pY W kX p) hW=>Qt h u.host uok.host (w:=W) hW);have HDT:=hid (fun W (h:cT N W arr u) hW=>Xg h hlen (w:=W) hW);have HTY:=hid (fun W (h:pY W kX p) e=>Qs h (w:=W) e);have HR:Hid (zE J0 p u=(p.nR.contains u.scheme&&oB J0 p u.host&&(u.scheme !=rD||(match KU J0 u with
  |some e=>p.types.contains e
  |none=>false)))):=hid rfl
 generalize zE J0 p u=R at*;have he:((aA u.scheme).toList !=[100,97,116,97])=(u.scheme !=rD):=by rw[oJ];rfl
 generalize cL u.host=aoJ at*;generalize aA u.scheme=sch at*;generalize p.nR.contains u.scheme=b1 at*;generalize oB J0 p u.host=b2 at*;generalize (u.scheme !=rD)=b3 at*;generalize KU J0 u=o at*;have HB:Hid (Below w.heap.size w w):=hid (Below.refl _ _);clear hp hW hb uok;go_enter Tryz.func36,Tryz.ntmps36;go_wp2_with (first|(refine jG (d:=2) (arr:=kX) rfl rfl ?_;intro g2 w2 rE hN;replace HB:=aR HB hN.out.2.1;clear hN)|(refine jG (d:=3) (arr:=arr) rfl rfl ?_;intro g3 w3 Fi hN;replace rE:=rE.below hN.out.2.1;replace HB:=aR HB hN.out.2.1;clear hN;have c:=Fi.cell (i:=0) CL)|(refine fF rfl rE R24 NG.out.1 rfl ?_));refine(HSC.out _ (HP.out.below HB.out)).mono ?_;rintro e w5 ⟨rfl,aM⟩;replace rE:=rE.below aM;replace Fi:=Fi.below aM;replace HB:=aR HB aM;clear aM HSC c;cases b1 with
 |false=>have HX:Hid (R=false):=HR;go_wp2_with fail;go_ret;exact⟨tT HX.out.symm,HB.out⟩
 |true=>
  go_wp2_with (first|(refine jQ rfl 24 _ rfl g2 4 rfl rE _ Tryz.underlying24 rfl NG.out.1 (by kernel_rfl) ?_)|(refine xF rfl 32 _ rfl g3 3 11 rfl Fi aoJ HHO.out HH1.out _ Tryz.underlying32 rfl (by kernel_rfl) ?_));refine(HHC.out _ (HP.out.below HB.out) (HW.out.below HB.out HW.out.size)).mono ?_;rintro e w5 ⟨rfl,aM⟩;replace rE:=rE.below aM;replace Fi:=Fi.below aM;replace HB:=aR HB aM;clear aM HHC;have c:=Fi.cell (i:=0) CL;cases b2 with
  |false=>have HX:Hid (R=false):=HR;go_wp2_with fail;go_ret;exact⟨tT HX.out.symm,HB.out⟩
  |true=>
   cases b3 with
   |true=>
    have HX:Hid (R=true):=HR;have JM:(sch.toList==[100,97,116,97])=false:=by cases hq:(sch.toList==[100,97,116,97]) with
     |true=>rw[bne,hq] at he;cases he
     |false=>rfl
    go_wp2_with fail;go_ret;exact⟨tT HX.out.symm,HB.out⟩
   |false=>
    have JM:(sch.toList==[100,97,116,97])=true:=by cases hq:(sch.toList==[100,97,116,97]) with
     |false=>rw[bne,hq] at he;cases he
     |true=>rfl
    go_wp2_with (refine fF rfl Fi jP qW.out.1 rfl ?_);refine(HDT.out _ (HU.out.below HB.out) (HW.out.below HB.out HW.out.size)).mono ?_;rintro e w5 ⟨rfl,aM⟩;replace rE:=rE.below aM;replace HB:=aR HB aM;clear aM HDT c Fi;cases o with
    |none=>have HX:Hid (R=false):=HR;simp only[PO];go_wp2_with fail;go_ret;exact⟨tT HX.out.symm,HB.out⟩
    |some e0=>have HT:=hid (fun W h=>HTY.out W h e0);have HX:Hid (R=p.types.contains e0):=HR;generalize p.types.contains e0=b4 at*;clear HTY HR;simp only[PO];go_wp2_with (refine jQ rfl 24 _ rfl g2 4 rfl rE _ Tryz.underlying24 rfl NG.out.1 (by kernel_rfl) ?_);refine(HT.out _ (HP.out.below HB.out)).mono ?_;rintro e w5 ⟨rfl,aM⟩;replace HB:=aR HB aM;clear aM;go_wp2_with fail;go_ret;exact⟨tT HX.out.symm,HB.out⟩
def afQ (d:List UInt8) (b:Bool) (u:List UInt8):List UInt8:=if b then d++U6++u else d
theorem KD (d:List UInt8) (b:Bool) (u:List UInt8) (hd:d.length≤1000000000) (hu:u.length≤1000000000) (w:World):Calls Tryz.prog 40 #[.agg (nO d b u)] w fun e w'=>e= .returned (.string (aA (afQ d b u)))∧Below w.heap.size w w':=by
 have h1:(aA d).size≤1000000000:=by rw[aD];exact hd
 have h2:(aA u).size≤1000000000:=by rw[aD];exact hu
 have h3:(aA d++(⟨#[59,32,117,114,108,61]⟩:ByteArray)).size≤1000000006:=by rw[ByteArray.size_append];show _+6≤_;omega
 have HB:Hid (Below w.heap.size w w):=hid (Below.refl _ _);have HS:Hid ((aA d++(⟨#[59,32,117,114,108,61]⟩:ByteArray))++aA u=aA (d++U6++u)):=hid (by rw[iL,iL];rfl);cases b with
 |false=>go_enter Tryz.func40,Tryz.ntmps40;go_wp2_with (refine jG (arr:=(nO d false u)) rfl rfl ?_;intro g w2 hr hN;replace HB:=aR HB hN.out.2.1;clear hN;have c0:w2.cell? ⟨g,0,none⟩=some (.string (aA d)):=hr.cell rfl;have c1:w2.cell? ⟨g,1,none⟩=some (.bool false):=hr.cell rfl);go_ret;exact⟨rfl,HB.out⟩
 |true=>go_enter Tryz.func40,Tryz.ntmps40;go_wp2_with (refine jG (arr:=(nO d true u)) rfl rfl ?_;intro g w2 hr hN;replace HB:=aR HB hN.out.2.1;clear hN;have c0:w2.cell? ⟨g,0,none⟩=some (.string (aA d)):=hr.cell rfl;have c1:w2.cell? ⟨g,1,none⟩=some (.bool true):=hr.cell rfl;have c2:w2.cell? ⟨g,2,none⟩=some (.string (aA u)):=hr.cell rfl);go_ret;exact⟨nM HS.out,HB.out⟩
def Af (u:ByteArray) (wv:Value) (c:vX):Array Value:= #[.string u,wv,.bool c.L8,.int .i64 (c.wide:Int),.bool c.Ma,.int .i64 (c.high:Int),.bool c.Mb,.float .f64 c.dens]
def sY:Array Value:=Af ⟨#[]⟩ (.slice none 0 0) {}
def aaG (o:Option vX) (g:Nat) (c:vX) (w:World) (e:Ending) (w':World):Prop:=e= .returned (.bool o.isSome)∧bL g w w'∧Row w' g 92 (Af ⟨#[]⟩ (.slice none 0 0) (o.getD c))
theorem TF (c:vX) (t:List UInt8) (q:UInt8):takeN c (t++[q])=
 if q=119 then match fJ t with
  |none=>none
  |some n=>if n < 1∨c.L8=true∨c.Mb=true then none else some {c with L8:=true,wide:=n}
 else if q=104 then match fJ t with
  |none=>none
  |some n=>if n < 1∨c.Ma=true∨c.Mb=true then none else some {c with Ma:=true,high:=n}
 else if q=120 then match zF t with
  |none=>none
  |some f=>if geF f=false∨c.L8=true∨c.Ma=true∨c.Mb=true then none else some {c with Mb:=true,dens:=f}
 else none:=by
 unfold takeN;rw[List.getLast?_concat,List.dropLast_concat];rfl
theorem yO (q:UInt8) (n:Nat) (hn:n < 256):((q.toNat:Int)==(n:Int))=(q==UInt8.ofNat n):=by
 rw[Bool.eq_iff_iff];simp only[beq_iff_eq];have h:(UInt8.ofNat n).toNat=n:=by simp[UInt8.toNat_ofNat',Nat.mod_eq_of_lt hn]
 rw[←UInt8.toNat_inj,h];omega
theorem aiT (f:Nat):(FloatKind.f64.format.order f 0==some Ordering.gt||FloatKind.f64.format.order f 0==some Ordering.eq)=geF f:=rfl
set_option maxRecDepth 1000000 in
theorem Qu (g:Nat) (c:vX) (word:List UInt8) (hl:word.length≤1000000000) (w:World) (hW:Laid w) (hR:Row w g 92 (Af ⟨#[]⟩ (.slice none 0 0) c)):
 Calls Tryz.prog 114 #[.pointer (some ⟨g,0,none⟩),.string (aA word)] w fun e w'=>aaG (takeN c word) g c w e w':=by
 have HS:Hid (bL g w w):=hid (bL.refl g w);rcases sU word with rfl|⟨t,q,rfl⟩;have hz:((aA []).toList==[])=true:=by rw[ByteArray.toList_eq,aC];rfl
 have qK:(aA []).toList.isEmpty=true:=by rw[cC];rfl
 have tg:=Tg.k 0;rotate_left;obtain⟨eG,rK,hk,e1,hg,he,hxz⟩:=uZ t q (by omega);have ht:t.length≤1000000000:=by simp at hl;omega
 have HN:=hid (fun W=>oS t ht W);have HF:=hid (fun W hW=>M3 t ht W hW);have hT:=TF c t q;generalize takeN c (t++[q])=R at*;have Ki:((q.toNat:Int)==119)=(q==119):=yO q 119 (by decide);have La:((q.toNat:Int)==104)=(q==104):=yO q 104 (by decide);have hq3:((q.toNat:Int)==120)=(q==120):=yO q 120 (by decide);have HW:=hid hW;generalize aA (t++[q])=x at*;generalize t.length=k at*;obtain⟨b1,n1,b2,n2,b3,f3⟩:=c;simp only[Af] at hR;simp only at hT;clear hW hl ht;by_cases c1:q=119;rw[if_pos c1] at hT;have Cn:(q==119)=true:=by simpa using c1
 rw[Cn] at Ki;clear La hq3 HF HW c1 Cn;rcases hw:fJ t with _|n;rw[hw] at hT HN;have HR:=hid hT;simp only[vF] at HN;clear hT hw;have tg:=Tg.k 1;rotate_left;rw[hw] at hT HN;simp only[vF] at HN;simp only at hT;clear hw;have d1:=hR.cell (i:=2) rfl;have d2:=hR.cell (i:=6) rfl;have rZ:(0:Int)≤(n:Int):=by omega
 have dO:n < 1∨(1≤n∧b1=true)∨(1≤n∧b1=false∧b3=true)∨(1≤n∧b1=false∧b3=false):=by
  rcases Nat.lt_or_ge n 1 with h|h;·exact Or.inl h
  ·cases b1<;>cases b3<;>simp[h]
 rcases dO with h|⟨h,rfl⟩|⟨h,rfl,rfl⟩|⟨h,rfl,rfl⟩;have HR:=hid (hT.trans (if_pos (Or.inl h)));have hd:decide ((n:Int) < 1)=true:=by simp;omega
 clear hT;have tg:=Tg.k 2;rotate_left;have HR:=hid (hT.trans (if_pos (by simp)));have hd:decide ((n:Int) < 1)=false:=by simp;omega
 clear hT;have tg:=Tg.k 3;rotate_left;have HR:=hid (hT.trans (if_pos (by simp)));have hd:decide ((n:Int) < 1)=false:=by simp;omega
 clear hT;have tg:=Tg.k 4;rotate_left;have HR:=hid (hT.trans (if_neg (by simp;omega)));have hd:decide ((n:Int) < 1)=false:=by simp;omega
 clear hT;have tg:=Tg.k 5;rotate_left;rw[if_neg c1] at hT;have Cn:(q==119)=false:=by simpa using c1
 rw[Cn] at Ki;by_cases c2:q=104;rw[if_pos c2] at hT;have Wd:(q==104)=true:=by simpa using c2
 rw[Wd] at La;clear hq3 HF HW c1 Cn c2 Wd;rcases hw:fJ t with _|n;rw[hw] at hT HN;have HR:=hid hT;simp only[vF] at HN;clear hT hw;have tg:=Tg.k 6;rotate_left;rw[hw] at hT HN;simp only[vF] at HN;simp only at hT;clear hw;have d1:=hR.cell (i:=4) rfl;have d2:=hR.cell (i:=6) rfl;have rZ:(0:Int)≤(n:Int):=by omega
 have dO:n < 1∨(1≤n∧b2=true)∨(1≤n∧b2=false∧b3=true)∨(1≤n∧b2=false∧b3=false):=by
  rcases Nat.lt_or_ge n 1 with h|h;·exact Or.inl h
  ·cases b2<;>cases b3<;>simp[h]
 rcases dO with h|⟨h,rfl⟩|⟨h,rfl,rfl⟩|⟨h,rfl,rfl⟩;have HR:=hid (hT.trans (if_pos (Or.inl h)));have hd:decide ((n:Int) < 1)=true:=by simp;omega
 clear hT;have tg:=Tg.k 7;rotate_left;have HR:=hid (hT.trans (if_pos (by simp)));have hd:decide ((n:Int) < 1)=false:=by simp;omega
 clear hT;have tg:=Tg.k 8;rotate_left;have HR:=hid (hT.trans (if_pos (by simp)));have hd:decide ((n:Int) < 1)=false:=by simp;omega
 clear hT;have tg:=Tg.k 9;rotate_left;have HR:=hid (hT.trans (if_neg (by simp;omega)));have hd:decide ((n:Int) < 1)=false:=by simp;omega
 clear hT;have tg:=Tg.k 10;rotate_left;rw[if_neg c2] at hT;have Wd:(q==104)=false:=by simpa using c2
 rw[Wd] at La;by_cases c3:q=120;rw[if_pos c3] at hT;have hs3:(q==120)=true:=by simpa using c3
 rw[hs3] at hq3;have Kf:=hid (Nat.le_of_lt hR.lt);clear HN c1 Cn c2 Wd c3 hs3;rcases hw:zF t with _|f;rw[hw] at hT HF;have HR:=hid hT;simp only[ahX] at HF;clear hT hw;have tg:=Tg.k 11;rotate_left;rw[hw] at hT HF;simp only[ahX] at HF;simp only at hT;clear hw;have An:=aiT f;have dO:(geF f=false)∨(geF f=true∧b1=true)∨(geF f=true∧b1=false∧b2=true)∨(geF f=true∧b1=false∧b2=false∧b3=true)∨(geF f=true∧b1=false∧b2=false∧b3=false):=by cases geF f<;>cases b1<;>cases b2<;>cases b3<;>simp
 rcases dO with h|⟨h,rfl⟩|⟨h,rfl,rfl⟩|⟨h,rfl,rfl,rfl⟩|⟨h,rfl,rfl,rfl⟩<;>(rw[h] at An);have HR:=hid (hT.trans (if_pos (by simp[h])));clear hT h;have tg:=Tg.k 12;rotate_left;have HR:=hid (hT.trans (if_pos (by simp[h])));clear hT h;have tg:=Tg.k 13;rotate_left;have HR:=hid (hT.trans (if_pos (by simp[h])));clear hT h;have tg:=Tg.k 14;rotate_left;have HR:=hid (hT.trans (if_pos (by simp[h])));clear hT h;have tg:=Tg.k 15;rotate_left;have HR:=hid (hT.trans (if_neg (by simp[h])));clear hT h;have tg:=Tg.k 16;rotate_left;rw[if_neg c3] at hT;have hs3:(q==120)=false:=by simpa using c3
 rw[hs3] at hq3;have HR:=hid hT;clear HN HF HW c1 Cn c2 Wd c3 hs3 hT;have tg:=Tg.k 17;all_goals
  go_enter Tryz.func114,Tryz.ntmps114;go_wp2_with fail;first
  |(first|have:Tg 0:=tg|have:Tg 17:=tg)
  |first
   |(first|have:Tg 11:=tg|have:Tg 12:=tg|have:Tg 13:=tg|have:Tg 14:=tg|have:Tg 15:=tg|have:Tg 16:=tg)
    refine(HF.out _ HW.out).mono ?_;rintro e w5 ⟨rfl,aM⟩;replace HS:=hid (HS.out.below aM Kf.out);replace hR:=hR.below aM;first
    |have:Tg 11:=tg
    |have d1:=hR.cell (i:=2) rfl;have d2:=hR.cell (i:=4) rfl;have d3:=hR.cell (i:=6) rfl
    clear aM
   |refine(HN.out _).mono ?_;rintro e w' ⟨rfl,rfl⟩
   go_wp2_with (first|(refine oT 2 rfl hR rfl I4 ?_;intro w1 aH aB;replace HS:=hid (HS.out.trans (bL.of aB));replace hR:=aH;clear aB aH;simp[Act.eval] at hR)|(refine oT 3 rfl hR rfl I3 ?_;intro w1 aH aB;replace HS:=hid (HS.out.trans (bL.of aB));replace hR:=aH;clear aB aH;simp[Act.eval] at hR)|(refine oT 4 rfl hR rfl I4 ?_;intro w1 aH aB;replace HS:=hid (HS.out.trans (bL.of aB));replace hR:=aH;clear aB aH;simp[Act.eval] at hR)|(refine oT 5 rfl hR rfl I3 ?_;intro w1 aH aB;replace HS:=hid (HS.out.trans (bL.of aB));replace hR:=aH;clear aB aH;simp[Act.eval] at hR)|(refine oT 6 rfl hR rfl I4 ?_;intro w1 aH aB;replace HS:=hid (HS.out.trans (bL.of aB));replace hR:=aH;clear aB aH;simp[Act.eval] at hR)|(refine oT 7 rfl hR rfl I90 ?_;intro w1 aH aB;replace HS:=hid (HS.out.trans (bL.of aB));replace hR:=aH;clear aB aH;simp[Act.eval] at hR))
  go_ret;first
  |have:Tg 0:=tg;exact⟨rfl,HS.out,hR⟩
  |exact⟨aZ (by rw[HR.out];rfl),HS.out,by rw[HR.out];exact hR⟩
end Go.Proofs.YtmgmclkplepapaaGreatDoor
