/- Part of the proof of TopBoundsUptoCardSaid. Conditions: none beyond the statement. -/
import Derived.Test.YtmgmclkplepapaaGreatDoorPt49
set_option linter.all false
set_option maxRecDepth 100000
set_option maxHeartbeats 64000000
namespace Go.Proofs.YtmgmclkplepapaaGreatDoor
open Go.RowKit
theorem aaT:∀i:Fin 256,(GM (UInt8.ofNat i.val)).length=kS (UInt8.ofNat i.val):=by decide+kernel
theorem aeT (c:UInt8):(GM c).length=kS c:=by have h:=aaT ⟨c.toNat,c.toNat_lt⟩;simpa using h
theorem aeU (l:List UInt8):(gY l).length=dL l:=by
 induction l with
 |nil=>rfl
 |cons c l ih=>rw[F0,List.length_append,lN,aeT,ih]
theorem QH:cN.all (fun t=>decide (0≤t.2.2)&&decide (t.2.2≤3))=true:=by decide+kernel
theorem aaU (a b:List UInt8):∃k:Nat,k≤3∧kindOf a b=(k:Int):=by
 unfold kindOf;cases h:look a b cN with
 |none=>exact⟨0,by omega,rfl⟩
 |some v=>have h1:=List.all_eq_true.1 QH _ (yB h);simp only[Bool.and_eq_true,decide_eq_true_eq] at h1;exact⟨v.toNat,by omega,by simp;omega⟩
theorem TR (p:eH):T7 (R0 p):=⟨ZZ,FB,fun s r h=>vV h⟩
theorem QI (p:eH) (kind:Nat) (l:List fV):tJ (R0 p) kind l=l.filter (oN p kind):=rfl
theorem Gk (p:eH) (kind:Nat) (b:bD) (s:List UInt8):(eP (R0 p) kind b s).1.length≤s.length+1:=by
 unfold eP;split;·simp
 ·split;·rw[List.length_map];exact Nat.le_trans (D6 _ _ _) (Nat.le_succ _)
  ·split
   ·split;·simp
    ·split<;>simp
   ·simp
theorem TS (p:eH) (kind:Nat) {b:bD} (hb:b.scheme=aN→b.opaq=false) (s:List UInt8):∀it∈(eP (R0 p) kind b s).1,(aQ J0 it.url true).length≤5*s.length+dL (aQ J0 b true)+58∧it.words.length≤s.length:=by
 have one:∀t:List UInt8,t.length≤s.length+1→(aQ J0 (nY (R0 p) b t).url true).length≤5*s.length+dL (aQ J0 b true)+58∧(nY (R0 p) b t).words=[]:=by
  intro t ht;constructor
  ·by_cases hr:(nY (R0 p) b t).right=true;·have h1:=GZ (TR p) hb hr;have h2:=AM (aQ (R0 p).J (nY (R0 p) b t).url true);have h3:aQ (R0 p).J (nY (R0 p) b t).url true=aQ J0 (nY (R0 p) b t).url true:=rfl;have h4:aQ (R0 p).J b true=aQ J0 b true:=rfl;rw[h3] at h1 h2;rw[h4] at h1;omega
   ·have:nY (R0 p) b t={}:=by
     unfold nY at hr⊢;split;·rfl
     ·rename_i u hu;rw[hu] at hr;exact absurd rfl hr
    rw[this];have h5:(aQ J0 ({}:fV).url true).length=1:=by decide+kernel
    omega
  ·unfold nY;split<;>rfl
 unfold eP;split;·intro it h;rw[List.mem_singleton] at h;subst h;have:=one s (by omega);exact⟨this.1,by rw[this.2];simp⟩
 ·split;·intro it h;obtain⟨c,hc,rfl⟩:=List.mem_map.1 h;have h1:=LM hc;have h2:=CE (R0 p).Eu s;exact⟨(one c.url (by omega)).1,by simp only;omega⟩
  ·split
   ·split;·intro it h;exact absurd h (by simp)
    ·rename_i r hr;have h1:=vV hr;split;·intro it h;rw[List.mem_singleton] at h;subst h;have:=one r.url (by omega);exact⟨this.1,by rw[this.2];simp⟩
     ·intro it h;rw[List.mem_singleton] at h;subst h;have:=AM (aQ J0 b true);exact⟨by simp only;omega,by simp⟩
   ·intro it h;exact absurd h (by simp)
theorem Xw (p:eH) (kind:Nat) {b:bD} (hb:b.scheme=aN→b.opaq=false) (raw:List UInt8):
 (gY (mB (R0 p) kind ((eP (R0 p) kind b (eD raw)).1.filter (oN p kind)) (eP (R0 p) kind b (eD raw)).2)).length≤15*raw.length+(eP (R0 p) kind b (eD raw)).1.length*(5*(aQ J0 b true).length+64):=by
 rw[aeU,←QI];have h1:=T8 (TR p) hb kind (eD raw);have h2:(eD raw).length≤3*raw.length:=by have h1:=Eo _ raw (Nat.le_refl _);have h2:=Oa (dM (eI raw));unfold eD;omega
 have h3:=Er (aQ J0 b true);have h4:aQ (R0 p).J b true=aQ J0 b true:=rfl;rw[h4] at h1;have h5:(eP (R0 p) kind b (eD raw)).1.length*(dL (aQ J0 b true)+64)≤(eP (R0 p) kind b (eD raw)).1.length*(5*(aQ J0 b true).length+64):=Nat.mul_le_mul_left _ (by omega);omega
theorem JH (l:List UInt8):(eD l).length≤3*l.length:=by have h1:=Eo _ l (Nat.le_refl _);have h2:=Oa (dM (eI l));unfold eD;omega
theorem JI {N0:Nat→Prop} {arr:Array Value} {b:bD} {w:World} (p:eH) (kind:Nat) (hk:kind≤3) (hb:cT N0 w arr b) (lA:b.path.length≤10000000) {v:Value} {l:List UInt8} (hv:eR w v l) (hl:l.length≤300000) (hW:Laid w):Calls Tryz.prog 9 #[.int .i64 kind,.agg arr,v] w fun e w'=>CA (eP (R0 p) kind b (eD l)) w e w':=by
 have HW:=hid hW;have HU:=hid hb;have HV:=hid hv;have qX:=hid hb.dH;have Ut:=JH l;have HVA:=hid (fun W hW h=>PX v l W hW h (by omega));have MS:=hid (fun W (h:cT N0 W arr b) hW=>QB (w:=W) p kind hk h lA (eD l) (by omega) hW);generalize eP (R0 p) kind b (eD l)=R at*;generalize eD l=x at*;obtain⟨A,c,Ef,_,_⟩:=hv.len;subst Ef;have HB:Hid (Below w.heap.size w w):=hid (Below.refl _ _);clear hW hb hv lA;go_enter Tryz.func9,Tryz.ntmps9;go_wp2_with (first|(refine jH (arr:=arr) rfl rfl ?_;intro gB w2 aE hN;have Kz:=jV HB hN;replace HB:=aR HB hN.out.2.1;clear hN)|(refine eX rfl (eS _) ?_;intro gA w2 cP hN;have eF:=fU aE hN;have GU:=jV HB hN;replace aE:=aE.below hN.out.2.1;replace HB:=aR HB hN.out.2.1;clear hN));have Hf:=hid cP.lt;have HL9:=hid (HW.out.below HB.out HW.out.size);have JV:Hid (∀W,fX w2.drew W→Laid W∧cT N0 W arr b∧eR W (.slice A l.length c) l):=hid (fun W hW=>⟨(HL9.out.step (bB _)).step hW,((HU.out.below HB.out).below (bB _)).below hW,((HV.out.below HB.out).below (bB _)).below hW⟩);apply kH fX [.val _,.val (.agg arr),.val _,.val (.string (aA x)),.any (fun v W=>∃sv,v= .agg #[sv,.string (aA R.2)]∧jG (Aw w2.heap.size iG) 52 25 W (w2.heap.size+1) sv R.1)] 5 _ rfl rfl rfl (by kernel_rfl) (by kernel_rfl) (by kernel_rfl) mM;simp only[List.take_succ_cons,List.take_zero];apply aS.val; ·rfl
 ·intro W hW hF K hK;go_simp;exact hK _ (Below.refl _ _)
 simp only[pq];apply aS.val; ·rfl
 ·intro W hW hF K hK;exact D0 34 _ rfl gB 23 rfl (fX.row aE hW) _ Tryz.underlying34 rfl qX.out.1 (by kernel_rfl) (hK _ (Below.refl _ _))
 simp only[pq];apply aS.val; ·rfl
 ·intro W hW hF K hK;go_simp;exact hK _ (Below.refl _ _)
 simp only[pq];apply aS.val; ·rfl
 ·intro W hW hF K hK;go_simp;go_at_call 21;refine(HVA.out _ (JV.out _ hW).1 (JV.out _ hW).2.2).mono ?_;rintro e w3 ⟨rfl,dE⟩;exact hK _ dE
 simp only[pq];apply aS.any;·rfl
 ·rfl
 ·rintro v W W' ⟨ar,rfl,h⟩ hg;exact⟨ar,rfl,h.below (aY.aw _) hg⟩
 ·intro W hW hF K hK;go_simp;go_at_call 20;refine(MS.out _ (JV.out _ hW).2.1 (JV.out _ hW).1).mono ?_;rintro e w3 ⟨dE,ar,rfl,h2⟩;exact hK _ _ dE ⟨ar,rfl,(h2.LI aY hW.size).mono (Nat.succ_le_succ hW.size)⟩
 intro u10;simp only[pq];refine aS.nil ?_;intro w8 rB iK;obtain⟨⟨sv,rfl,hs8⟩,_⟩:=iK;obtain⟨sa,sc,hsv,_⟩:=(hs8.read (aY.aw _)).len;subst hsv;have HS8:=hid hs8;replace HB:=hid (HB.out.trans (((bB _).trans (rB.mono (Nat.le_refl _))).mono HB.out.size));replace cP:=fX.row cP rB;clear rB hs8 aE;refine Lt 43 _ _ rfl gA _ rfl rfl cP rfl (by kernel_rfl) (by kernel_rfl) fun w9 aoU he9=>?_;have HS9:=hid (HS8.out.oL aY (Nat.le_of_lt Hf.out) (Nat.lt_succ_self _) (bL.of he9));replace HB:=bU HB he9.1 GU;go_wp2_with fail;refine bK rfl rfl aoU Tryz.underlying43 rfl (by kernel_rfl) rfl ?_;exact⟨HB.out,_,rfl,(HS9.out.LI aY (Nat.le_trans GU (Nat.le_of_lt Hf.out))).mono (Nat.succ_le_succ (Nat.le_trans GU (Nat.le_of_lt Hf.out)))⟩
def ajG (kind:Nat) (AT len:Int) (right any:Bool) (K:List fV) (O:List UInt8):Int×Int×List UInt8:=
 if kind=0 then(1,0,[]) else if AT < len then(2,1,[]) else if right=false then(2,2,[]) else if any=false then(2,3,[]) else if K=[] then(2,4,[]) else if AT < (O.length:Int) then(2,1,[]) else(3,0,O)
def kZ (p:eH) (b:bD) (kind:Nat) (raw:List UInt8):Int×Int×List UInt8:=
 ajG kind p.AT raw.length (CY b) ((eP (R0 p) kind b (eD raw)).1.any (·.right)) ((eP (R0 p) kind b (eD raw)).1.filter (oN p kind)) (gY (mB (R0 p) kind ((eP (R0 p) kind b (eD raw)).1.filter (oN p kind)) (eP (R0 p) kind b (eD raw)).2))
def BK (el nm:List UInt8):Nat:=(kindOf (rI el) (rI nm)).toNat
theorem D7 (el nm:List UInt8):kindOf (rI el) (rI nm)=(BK el nm:Int)∧BK el nm≤3:=by obtain⟨k,h1,h2⟩:=aaU (rI el) (rI nm);unfold BK;rw[h2];exact⟨by simp,by simpa using h1⟩
theorem C2 {o:Int×Int×List UInt8} {a b:Int} {l:List UInt8} (h:o=(a,b,l)):Ending.returned (.agg (Ah a b l))= .returned (.agg (Ah o.1 o.2.1 o.2.2)):=by rw[h]
theorem filter_filter {N0:Nat→Prop} {kY arr:Array Value} {p:eH} {b:bD} {w:World} {v:Value} {raw:List UInt8} (el nm:List UInt8) (hp:pZ w kY p) (hb:cT N0 w arr b) (hbf:b.scheme=aN→b.opaq=false) (dB:dL (aQ J0 b true)≤2000) (hv:eR w v raw) (hr:raw.length≤300) (hel:el.length≤1000) (hnm:nm.length≤1000) (hW:Laid w):
 Calls Tryz.prog 7 #[.agg kY,.agg arr,.string (aA el),.string (aA nm),v] w fun e w'=>e= .returned (.agg (Ah (kZ p b (BK el nm) raw).1 (kZ p b (BK el nm) raw).2.1 (kZ p b (BK el nm) raw).2.2))∧Below w.heap.size w w':=by
 have YC:=AM (aQ J0 b true);have lA:b.path.length≤2000:=by obtain⟨pv,_,_,hu⟩:=hb;exact Nat.le_trans (Ni hu) dB
 have Ut:=JH raw;have XJ:=(D7 el nm).2;have HKI:=hid (fun W=>Ij (aA el) (aA nm) W (by rw[aD];omega) (by rw[aD];omega));rw[aC,aC,(D7 el nm).1] at HKI;generalize BK el nm=kind at*;have HRI:=hid (fun W (h:cT N0 W arr b) hW=>Qp h (by omega) (w:=W) hW);have Lr:=hid (fun W (h:cT N0 W arr b) (hv:eR W v raw) hW=>JI p kind XJ h (by omega) hv (by omega) (w:=W) hW);have Mu:=Gk p kind b (eD raw);have afZ:=TS p kind hbf (eD raw);have Mu:(eP (R0 p) kind b (eD raw)).1.length≤1000:=by omega
 have hL:∀it∈(eP (R0 p) kind b (eD raw)).1,(aQ J0 it.url true).length≤100000000∧it.words.length≤1000000000:=fun it h=>by have:=afZ it h;omega
 have XP:=T8 (TR p) hbf kind (eD raw);rw[QI] at XP;have hew:=AM (mB (R0 p) kind ((eP (R0 p) kind b (eD raw)).1.filter (oN p kind)) (eP (R0 p) kind b (eD raw)).2);have W3:(mB (R0 p) kind ((eP (R0 p) kind b (eD raw)).1.filter (oN p kind)) (eP (R0 p) kind b (eD raw)).2).length≤100000000:=by have h4:aQ (R0 p).J b true=aQ J0 b true:=rfl;rw[h4] at XP;have:(eP (R0 p) kind b (eD raw)).1.length*(dL (aQ J0 b true)+64)≤1000*2064:=Nat.mul_le_mul Mu (by omega);omega
 have UW:Hid (kZ p b kind raw=ajG kind p.AT raw.length (CY b) ((eP (R0 p) kind b (eD raw)).1.any (·.right)) ((eP (R0 p) kind b (eD raw)).1.filter (oN p kind)) (gY (mB (R0 p) kind ((eP (R0 p) kind b (eD raw)).1.filter (oN p kind)) (eP (R0 p) kind b (eD raw)).2))):=hid rfl;generalize kZ p b kind raw=V at*;clear XP hew dB YC lA Ut afZ;generalize eP (R0 p) kind b (eD raw)=R at*;generalize CY b=right at*;obtain⟨I,D⟩:=R;simp only at Mu hL W3 UW;have HCO:=hid (fun v W (h:oX iG 52 25 W v I)=>JG I v W h (by omega));have HKE:=hid (fun v W (h:oX iG 52 25 W v I) (hp:pZ W kY p) hW=>Nz p kind XJ I D v kY W h (by omega) hL hp hW);have mE:(I.filter (oN p kind)).length≤I.length:=List.length_filter_le _ _;have HEM:=hid (fun v W (h:oX iG 52 25 W v (I.filter (oN p kind))) hW=>TN p kind XJ (I.filter (oN p kind)) D v W h (by omega) W3 hW);have HOL:Hid ((gY (mB (R0 p) kind (I.filter (oN p kind)) D)).length≤500000000):=hid (by have:=(I5 (mB (R0 p) kind (I.filter (oN p kind)) D)).2;omega);generalize gY (mB (R0 p) kind (I.filter (oN p kind)) D)=O at*;have hkc:(I.filter (oN p kind)).length≤1000:=by omega
 generalize I.filter (oN p kind)=K at*;generalize I.any (·.right)=aoV at*;have Zl:=hid (fun y W=>QF y W);have HW:=hid hW;have HP:=hid hp;have HU:=hid hb;have HVW:=hid hv;have NH:=hid hp.dH;have qX:=hid hb.dH;obtain⟨_,_,_,_,_,_,_,_,_,_,_,_,Xf⟩:=hp.cells;obtain⟨A0,c0,Ef,_,_⟩:=hv.len;subst Ef;have HZO:=hid (aD O);have HB:Hid (Below w.heap.size w w):=hid (Below.refl _ _);clear hp hb hv hW W3 hL mE;generalize p.AT=AT at*;go_enter Tryz.func7,Tryz.ntmps7;go_wp2_with (first|(refine jH (d:=5) (arr:=kY) rfl rfl ?_;intro gP w2 aK hN;have UN:=jV HB hN;replace HB:=aR HB hN.out.2.1;clear hN)|(refine jH (d:=6) (arr:=arr) rfl rfl ?_;intro gU w2 bR hN;have bN:=fU aK hN;have Ei:=jV HB hN;replace aK:=aK.below hN.out.2.1;replace HB:=aR HB hN.out.2.1;clear hN)|(refine eX rfl (B6 _) ?_;intro gV w2 dA hN;have D8:=fU aK hN;have D9:=fU bR hN;have TA:=jV HB hN;replace aK:=aK.below hN.out.2.1;replace bR:=bR.below hN.out.2.1;replace HB:=aR HB hN.out.2.1;clear hN));refine(HKI.out _).mono ?_;rintro e w2 ⟨rfl,aM⟩;replace aK:=aK.below aM;replace bR:=bR.below aM;replace dA:=dA.below aM;replace HB:=aR HB aM;clear aM HKI;by_cases zP:kind=0;·subst zP;go_wp2_with (first|(refine aG rfl 38 _ rfl _ (.agg (Ah 1 0 [])) (TO _) ?_)|(refine lV rfl dA rfl (by kernel_rfl) ?_;intro w1 aH aB;replace aK:=aK.other aB (Nat.ne_of_lt D8);replace bR:=bR.other aB (Nat.ne_of_lt D9);replace HB:=bU HB aB.1 TA;replace dA:=aH;clear aB aH));refine bK rfl rfl dA Tryz.underlying38 rfl (by kernel_rfl) rfl ?_;exact⟨C2 (UW.out.trans rfl),HB.out⟩
 have hkz:((kind:Int)==0)=false:=by simp;omega
 replace UW:=hid (UW.out.trans (if_neg zP));by_cases TZ:AT < (raw.length:Int);·have VW:AT < (raw.length:Int):=TZ;go_wp2_with (refine eC 3 rfl aK _ rfl Xf L3 ?_);refine(Zl.out 1 _).mono ?_;rintro e w3 ⟨rfl,aM⟩;replace aK:=aK.below aM;replace bR:=bR.below aM;replace dA:=dA.below aM;replace HB:=aR HB aM;go_wp2_with (refine lV rfl dA rfl (by kernel_rfl) ?_;intro w1 aH aB;replace aK:=aK.other aB (Nat.ne_of_lt D8);replace bR:=bR.other aB (Nat.ne_of_lt D9);replace HB:=bU HB aB.1 TA;replace dA:=aH;clear aB aH);refine bK rfl rfl dA Tryz.underlying38 rfl (by kernel_rfl) rfl ?_;exact⟨C2 (UW.out.trans (if_pos TZ)),HB.out⟩
 replace UW:=hid (UW.out.trans (if_neg TZ));go_wp2_with (first|(refine eC 3 rfl aK _ rfl Xf L3 ?_)|(refine fF rfl bR jQ qX.out.1 rfl ?_));refine(HRI.out _ (HU.out.below HB.out) (HW.out.below HB.out HW.out.size)).mono ?_;rintro e w4 ⟨rfl,aM⟩;replace aK:=aK.below aM;replace bR:=bR.below aM;replace dA:=dA.below aM;replace HB:=aR HB aM;clear aM HRI TZ hkz;cases right with
 |false=>go_wp2_with fail;refine(Zl.out 2 _).mono ?_;rintro e w3 ⟨rfl,aM⟩;replace aK:=aK.below aM;replace bR:=bR.below aM;replace dA:=dA.below aM;replace HB:=aR HB aM;go_wp2_with (refine lV rfl dA rfl (by kernel_rfl) ?_;intro w1 aH aB;replace aK:=aK.other aB (Nat.ne_of_lt D8);replace bR:=bR.other aB (Nat.ne_of_lt D9);replace HB:=bU HB aB.1 TA;replace dA:=aH;clear aB aH);refine bK rfl rfl dA Tryz.underlying38 rfl (by kernel_rfl) rfl ?_;exact⟨C2 (UW.out.trans rfl),HB.out⟩
 |true=>
  go_wp2_with (refine fF rfl bR jQ qX.out.1 rfl ?_);refine(Lr.out _ (HU.out.below HB.out) (HVW.out.below HB.out) (HW.out.below HB.out HW.out.size)).mono ?_;rintro e w5 ⟨aM,v5,rfl,ho5⟩;have GJ:=hid (fun W (hb:Below w5.heap.size w5 W)=>((ho5.aaJ aY).read aY).below aY hb);obtain⟨a5,c5,hv5,_⟩:=((ho5.aaJ aY).read aY).len;subst hv5;have iJ:Hid (Below w5.heap.size w5 w5):=hid (Below.refl _ _);replace aK:=aK.below aM;replace bR:=bR.below aM;replace dA:=dA.below aM;replace HB:=aR HB aM;clear aM ho5 Lr;go_wp2_with (first|(refine eX rfl (eS _) ?_;intro gD w2 tE hN;have amI:=fU aK hN;have amJ:=fU bR hN;have amK:=fU dA hN;have lgD:=jV HB hN;replace aK:=aK.below hN.out.2.1;replace bR:=bR.below hN.out.2.1;replace dA:=dA.below hN.out.2.1;replace HB:=aR HB hN.out.2.1;have k5:w5.heap.size≤gD:=(by have:=iJ.out.size;have:=hN.out.1;omega);replace iJ:=aR iJ hN.out.2.1;clear hN)|(refine lV rfl tE rfl (by kernel_rfl) ?_;intro w1 aH aB;replace aK:=aK.other aB (Nat.ne_of_lt amI);replace bR:=bR.other aB (Nat.ne_of_lt amJ);replace dA:=dA.other aB (Nat.ne_of_lt amK);replace iJ:=bU iJ aB.1 k5;replace HB:=bU HB aB.1 lgD;replace tE:=aH;clear aB aH)|(refine eC 0 rfl tE _ rfl rfl L41 ?_));refine(HCO.out _ _ (GJ.out _ iJ.out)).mono ?_;rintro e w6 ⟨rfl,aM⟩;replace aK:=aK.below aM;replace bR:=bR.below aM;replace dA:=dA.below aM;replace tE:=tE.below aM;replace HB:=aR HB aM;replace iJ:=aR iJ aM;clear aM HCO;cases aoV with
  |false=>go_wp2_with fail;refine(Zl.out 3 _).mono ?_;rintro e w3 ⟨rfl,aM⟩;replace aK:=aK.below aM;replace bR:=bR.below aM;replace dA:=dA.below aM;replace tE:=tE.below aM;replace HB:=aR HB aM;go_wp2_with (refine lV rfl dA rfl (by kernel_rfl) ?_;intro w1 aH aB;replace aK:=aK.other aB (Nat.ne_of_lt D8);replace bR:=bR.other aB (Nat.ne_of_lt D9);replace HB:=bU HB aB.1 TA;replace dA:=aH;clear aB aH);refine bK rfl rfl dA Tryz.underlying38 rfl (by kernel_rfl) rfl ?_;exact⟨C2 (UW.out.trans rfl),HB.out⟩
  |true=>
   go_wp2_with (first|(refine fF rfl aK R24 NH.out.1 rfl ?_)|(refine fF rfl tE R43 rfl rfl ?_));refine(HKE.out _ _ (GJ.out _ iJ.out) (HP.out.below HB.out) (HW.out.below HB.out HW.out.size)).mono ?_;rintro e w7 ⟨aM,v7,rfl,ho7⟩;have HRK:=hid (fun W (hb:Below w7.heap.size w7 W)=>ho7.below aY hb);obtain⟨a7,c7,hv7,_⟩:=ho7.len;subst hv7;have AE:Hid (Below w7.heap.size w7 w7):=hid (Below.refl _ _);replace aK:=aK.below aM;replace bR:=bR.below aM;replace dA:=dA.below aM;replace tE:=tE.below aM;replace HB:=aR HB aM;clear aM ho7 HKE GJ iJ Mu;by_cases hK:K=[]
   ·have hkz:((K.length:Int)==0)=true:=by rw[hK];rfl
    go_wp2_with (first|(refine eX rfl (eS _) ?_;intro gK w2 tD hN;have UU:=fU aK hN;have aaV:=fU bR hN;have aaW:=fU dA hN;have aaX:=fU tE hN;have lgK:=jV HB hN;replace aK:=aK.below hN.out.2.1;replace bR:=bR.below hN.out.2.1;replace dA:=dA.below hN.out.2.1;replace tE:=tE.below hN.out.2.1;replace HB:=aR HB hN.out.2.1;have k7:w7.heap.size≤gK:=(by have:=AE.out.size;have:=hN.out.1;omega);replace AE:=aR AE hN.out.2.1;clear hN)|(refine lV rfl tD rfl (by kernel_rfl) ?_;intro w1 aH aB;replace aK:=aK.other aB (Nat.ne_of_lt UU);replace bR:=bR.other aB (Nat.ne_of_lt aaV);replace dA:=dA.other aB (Nat.ne_of_lt aaW);replace tE:=tE.other aB (Nat.ne_of_lt aaX);replace AE:=bU AE aB.1 k7;replace HB:=bU HB aB.1 lgK;replace tD:=aH;clear aB aH)|(refine eC 0 rfl tD _ rfl rfl L41 ?_));refine(Zl.out 4 _).mono ?_;rintro e w3 ⟨rfl,aM⟩;replace aK:=aK.below aM;replace bR:=bR.below aM;replace dA:=dA.below aM;replace tE:=tE.below aM;replace tD:=tD.below aM;replace HB:=aR HB aM;go_wp2_with (refine lV rfl dA rfl (by kernel_rfl) ?_;intro w1 aH aB;replace aK:=aK.other aB (Nat.ne_of_lt D8);replace bR:=bR.other aB (Nat.ne_of_lt D9);replace HB:=bU HB aB.1 TA;replace dA:=aH;clear aB aH);refine bK rfl rfl dA Tryz.underlying38 rfl (by kernel_rfl) rfl ?_;exact⟨C2 (UW.out.trans (if_pos hK)),HB.out⟩
   have hkz:((K.length:Int)==0)=false:=by have:0 < K.length:=List.length_pos_iff.mpr hK;simp;omega
   replace UW:=hid (UW.out.trans (if_neg hK));go_wp2_with (first|(refine eX rfl (eS _) ?_;intro gK w2 tD hN;have UU:=fU aK hN;have aaV:=fU bR hN;have aaW:=fU dA hN;have aaX:=fU tE hN;have lgK:=jV HB hN;replace aK:=aK.below hN.out.2.1;replace bR:=bR.below hN.out.2.1;replace dA:=dA.below hN.out.2.1;replace tE:=tE.below hN.out.2.1;replace HB:=aR HB hN.out.2.1;have k7:w7.heap.size≤gK:=(by have:=AE.out.size;have:=hN.out.1;omega);replace AE:=aR AE hN.out.2.1;clear hN)|(refine lV rfl tD rfl (by kernel_rfl) ?_;intro w1 aH aB;replace aK:=aK.other aB (Nat.ne_of_lt UU);replace bR:=bR.other aB (Nat.ne_of_lt aaV);replace dA:=dA.other aB (Nat.ne_of_lt aaW);replace tE:=tE.other aB (Nat.ne_of_lt aaX);replace AE:=bU AE aB.1 k7;replace HB:=bU HB aB.1 lgK;replace tD:=aH;clear aB aH)|(refine eC 0 rfl tD _ rfl rfl L41 ?_)|(refine fF rfl tD R43 rfl rfl ?_));refine(HEM.out _ _ (HRK.out _ AE.out) (HW.out.below HB.out HW.out.size)).mono ?_;rintro e w8 ⟨rfl,aM⟩;replace aK:=aK.below aM;replace bR:=bR.below aM;replace dA:=dA.below aM;replace tE:=tE.below aM;replace tD:=tD.below aM;replace HB:=aR HB aM;clear aM HEM HRK AE;by_cases VW:AT < (O.length:Int)
   ·have hmz:AT < ((aA O).size:Int):=by rw[HZO.out];exact VW
    go_wp2_with (refine eC 3 rfl aK _ rfl Xf L3 ?_);refine(Zl.out 1 _).mono ?_;rintro e w3 ⟨rfl,aM⟩;replace aK:=aK.below aM;replace bR:=bR.below aM;replace dA:=dA.below aM;replace tE:=tE.below aM;replace tD:=tD.below aM;replace HB:=aR HB aM;go_wp2_with (refine lV rfl dA rfl (by kernel_rfl) ?_;intro w1 aH aB;replace aK:=aK.other aB (Nat.ne_of_lt D8);replace bR:=bR.other aB (Nat.ne_of_lt D9);replace HB:=bU HB aB.1 TA;replace dA:=aH;clear aB aH);refine bK rfl rfl dA Tryz.underlying38 rfl (by kernel_rfl) rfl ?_;exact⟨C2 (UW.out.trans (if_pos VW)),HB.out⟩
   ·have hmz:¬AT < ((aA O).size:Int):=by rw[HZO.out];exact VW
    have HMO:=hid VW;clear VW;go_wp2_with (first|(refine eC 3 rfl aK _ rfl Xf L3 ?_)|(refine aG rfl 38 _ rfl _ (.agg (Ah 3 0 O)) (TP _ _) ?_)|(refine lV rfl dA rfl (by kernel_rfl) ?_;intro w1 aH aB;replace aK:=aK.other aB (Nat.ne_of_lt D8);replace bR:=bR.other aB (Nat.ne_of_lt D9);replace HB:=bU HB aB.1 TA;replace dA:=aH;clear aB aH));refine bK rfl rfl dA Tryz.underlying38 rfl (by kernel_rfl) rfl ?_;exact⟨C2 (UW.out.trans (if_neg (by have:=HMO.out;omega))),HB.out⟩
def amL (e:Ending):Prop:=∃bl:Bool,e= .returned (.bool bl)
theorem Xx {kY:Array Value} {p:eH} {w:World} (hp:pZ w kY p):Calls Tryz.prog 5 #[.agg kY] w fun e w'=>amL e∧Below w.heap.size w w':=by
 obtain⟨a0,c0,a1,c1,a2,c2,h0,r0,h1,r1,h2,r2,_⟩:=hp.cells;have hpo:afQ p:=by obtain⟨_,_,_,_,_,_,_,ok⟩:=hp;exact ok
 have HL:Hid (∀k,k < 3→∃(a:Option Addr) (L:List (List UInt8)) (c:Nat),(#[.slice a0 p.nS.length c0,.slice a1 p.vW.length c1,.slice a2 p.types.length c2]:Array Value)[k]? =some (.slice a L.length c)∧bT w (.slice a L.length c) (L.map aA)∧L.length≤1000000000):=hid (fun k hk=>by
  match k,hk with
  |0,_=>exact⟨a0,p.nS,c0,rfl,r0,hpo.n0⟩
  |1,_=>exact⟨a1,p.vW,c1,rfl,r1,hpo.n1⟩
  |2,_=>exact⟨a2,p.types,c2,rfl,r2,hpo.n2⟩)
 have HB:Hid (Below w.heap.size w w):=hid (Below.refl _ _);clear hp r0 r1 r2 hpo;generalize p.nS.length=n0 at*;generalize p.vW.length=n1 at*;generalize p.types.length=n2 at*;go_enter Tryz.func5,Tryz.ntmps5;go_upto_region 2 with(first|(refine jH (arr:=kY) rfl rfl ?_;intro gP w2 aK hN;replace HB:=aR HB hN.out.2.1;clear hN)|(refine eC 0 rfl aK _ rfl h0 NG ?_)|(refine eC 1 rfl aK _ rfl h1 NG ?_)|(refine eC 2 rfl aK _ rfl h2 NG ?_))
 have HRA:=hid (Row.new w2 22 #[Value.slice a0 n0 c0,Value.slice a1 n1 c1,Value.slice a2 n2 c2]);replace HB:=hid (HB.out.trans ((xC w2 (Obj.cells #[Value.slice a0 n0 c0,Value.slice a1 n1 c1,Value.slice a2 n2 c2] 22)).mono HB.out.size));generalize #[Value.slice a0 n0 c0,Value.slice a1 n1 c1,Value.slice a2 n2 c2]=all at*;generalize w2.heap.size=gA at*;generalize w2.alloc (Obj.cells all 22)=w3 at*;clear h0 h1 h2 aK;go_wp2_with fail;go_loopg [4] 4 (fun gz s4 wr=>∃k:Nat,gz=4 - k∧k≤3∧s4= .int .i64 (k:Int)∧w3=wr);case atStart=>exact⟨0,rfl,by omega,rfl,rfl⟩
 case round=>
  obtain⟨k,rfl,XJ,rfl,rfl⟩:=hrel;by_cases hk:k < 3
  ·have hko:(k:Int) < 3:=by omega
   obtain⟨a,L,c,aW,hrd,hLn⟩:=HL.out k hk;have aL:=HRA.out;have GJ:=hid (hrd.below HB.out);have h3:(k:Int) < ((3:Nat):Int):=by omega
   clear hrd;go_wp2_with (refine eC k rfl aL _ rfl aW NG ?_);go_loopg [5] 31 (fun gy s5 wr=>∃i:Nat,gy=31 - i∧i≤30∧i≤L.length∧s5= .int .i64 (i:Int)∧w3=wr);case atStart=>exact⟨0,rfl,by omega,Nat.zero_le _,rfl,rfl⟩
   case round=>
    obtain⟨i,rfl,aqW,hiL,rfl,rfl⟩:=hrel;by_cases hi:i < L.length
    ·have hio:(i:Int) < (L.length:Int):=by omega
     by_cases h30:i < 30
     ·have aoW:(i:Int) < 30:=by omega
      obtain⟨gp,off,rfl,hc⟩:=GJ.out.cellAt (show i < (L.map aA).length by simpa using hi);rw[List.getElem_map] at hc;have Kg:=hid (aD L[i]);generalize L[i]'hi=x at*;by_cases hx:x.length≤200
      ·have hxo:((aA x).size:Int)≤200:=by rw[Kg.out];omega
       go_wp2_with (refine eC k rfl aL _ rfl aW NG ?_);go_roundg (31 - (i+1));case measure=>omega
       case rel=>exact⟨i+1,rfl,by omega,by omega,by go_num,rfl⟩
      ·have hxo:(200:Int) < ((aA x).size:Int):=by rw[Kg.out];omega
       go_wp2_with (refine eC k rfl aL _ rfl aW NG ?_);go_ret;exact⟨⟨false,rfl⟩,HB.out⟩
     ·have aoW:¬(i:Int) < 30:=by omega
      by_cases Dx:L.length≤20;·omega
      ·have amM:(20:Int) < (L.length:Int):=by omega
       go_wp2_with (refine eC k rfl aL _ rfl aW NG ?_);go_ret;exact⟨⟨false,rfl⟩,HB.out⟩
    ·have hio:¬(i:Int) < (L.length:Int):=by omega
     by_cases Dx:L.length≤20
     ·have amM:(L.length:Int)≤20:=by omega
      go_wp2_with (refine eC k rfl aL _ rfl aW NG ?_);go_roundg (4 - (k+1));case measure=>omega
      case rel=>exact⟨k+1,rfl,by omega,by go_num,rfl⟩
     ·have amM:(20:Int) < (L.length:Int):=by omega
      go_wp2_with (refine eC k rfl aL _ rfl aW NG ?_);go_ret;exact⟨⟨false,rfl⟩,HB.out⟩
  ·have hko:¬(k:Int) < 3:=by omega
   go_wp2_with fail;go_ret;exact⟨⟨true,rfl⟩,HB.out⟩
theorem TT (s:List UInt8) (hs:s.length≤5000000) (w:World) (hW:Laid w):Calls Tryz.prog 6 #[.string (aA s)] w fun e w'=>Below w.heap.size w w'∧∃ar,e= .returned (.tuple #[.agg ar,.bool ((iL J0 (partsOf s)).isSome&&decide (s.length≤300))])∧cT (fun x=>x < w.heap.size) w' ar ((iL J0 (partsOf s)).getD {}):=by
 have HW:=hid hW;have ZO:=hid (fun W hW=>BE s hs W hW);have HZ:=hid (aD s);generalize iL J0 (partsOf s)=JO at*;have HB:Hid (Below w.heap.size w w):=hid (Below.refl _ _);clear hW;go_enter Tryz.func6,Tryz.ntmps6;go_wp2_with (refine eX rfl (aO _) ?_;intro gO w2 bQ hN;have Nv:=jV HB hN;replace HB:=aR HB hN.out.2.1;clear hN);have ER:=hid bQ.lt;have yV:=hid HB.out.size;refine(ZO.out _ (HW.out.below HB.out HW.out.size)).mono ?_;rintro e w5 ⟨aM,ar,rfl,yN⟩;replace bQ:=bQ.below aM;replace HB:=aR HB aM;have lX:=hid (yN.lE (N':=fun x=>x < w.heap.size∨x=gO) (fun x hx=>hx.elim (fun h=>Nat.lt_of_lt_of_le h yV.out) (fun h=>by rw[h];exact ER.out)));have iJ:Hid (Below w5.heap.size w5 w5):=hid (Below.refl _ _);have pA:=yN.dH;clear aM yN ZO;have hdz:decide (((aA s).size:Int)≤300)=decide (s.length≤300):=by rw[HZ.out];by_cases h:s.length≤300<;>simp[h]<;>omega
 obtain⟨d,hd⟩:∃d,d=decide (s.length≤300):=⟨_,rfl⟩;rw[←hd] at hdz;have HD:=hid hd;clear hd;cases hj:JO.isSome with
 |false=>go_wp2_with (first|(refine eX rfl (aO _) ?_;intro gU w2 bR hN;have QJ:=fU bQ hN;have Ei:=jV HB hN;replace bQ:=bQ.below hN.out.2.1;replace HB:=aR HB hN.out.2.1;have k5:w5.heap.size≤gU:=(by have:=iJ.out.size;have:=hN.out.1;omega);replace iJ:=aR iJ hN.out.2.1;clear hN)|(refine vS rfl bR pA jQ rfl rfl ?_;intro w1 aH aB;replace bQ:=bQ.other aB (Nat.ne_of_lt QJ);replace iJ:=bU iJ aB.1 k5;replace HB:=bU HB aB.1 Ei;replace bR:=aH;clear aB aH)|(refine fF rfl bR jQ pA.1 rfl ?_)|(refine vS rfl bQ pA jQ rfl rfl ?_;intro w1 aH aB;replace bR:=bR.other aB (Nat.ne_of_gt QJ);have Q0:=hid ((lX.out.below iJ.out).save (bL.of aB) (.inr rfl));clear iJ;replace HB:=bU HB aB.1 Nv;replace bQ:=aH;clear aB aH));refine dT rfl 23 _ rfl rfl bQ Tryz.underlying34 rfl pA.1 (by kernel_rfl) rfl ?_;exact⟨HB.out,_,by rw[hj,←HD.out];rfl,Q0.out.lE fun x hx=> .inl hx⟩
 |true=>go_wp2_with (first|(refine eX rfl (aO _) ?_;intro gU w2 bR hN;have QJ:=fU bQ hN;have Ei:=jV HB hN;replace bQ:=bQ.below hN.out.2.1;replace HB:=aR HB hN.out.2.1;have k5:w5.heap.size≤gU:=(by have:=iJ.out.size;have:=hN.out.1;omega);replace iJ:=aR iJ hN.out.2.1;clear hN)|(refine vS rfl bR pA jQ rfl rfl ?_;intro w1 aH aB;replace bQ:=bQ.other aB (Nat.ne_of_lt QJ);replace iJ:=bU iJ aB.1 k5;replace HB:=bU HB aB.1 Ei;replace bR:=aH;clear aB aH)|(refine fF rfl bR jQ pA.1 rfl ?_)|(refine vS rfl bQ pA jQ rfl rfl ?_;intro w1 aH aB;replace bR:=bR.other aB (Nat.ne_of_gt QJ);have Q0:=hid ((lX.out.below iJ.out).save (bL.of aB) (.inr rfl));clear iJ;replace HB:=bU HB aB.1 Nv;replace bQ:=aH;clear aB aH));refine dT rfl 23 _ rfl rfl bQ Tryz.underlying34 rfl pA.1 (by kernel_rfl) rfl ?_;exact⟨HB.out,_,by rw[hj,←HD.out];rfl,Q0.out.lE fun x hx=> .inl hx⟩
def QK:List UInt8:=[104,116,116,112,115,58,47,47,104,47,97,47,98]
def Xy:eH:=⟨[[104,116,116,112,115],[100,97,116,97]],[[104],[46,99,46,100]],[[105,109,97,103,101,47,112,110,103]],200⟩
def QL:bD:=(iL J0 (partsOf QK)).getD {}
def aeV:List UInt8:=[120,32,49,120,44,47,47,101,32,50,120,44,32,104,116,116,112,115,58,47,47,81,46,67,46,68,47,39,38,97,109,112,59,44,32,100,97,116,97,58,105,109,97,103,101,47,103,105,102,44,97]
def aeW:List UInt8:=[106,97,118,97,38,84,97,98,59,115,99,114,105,112,116,58,120]
def aoX:List UInt8:=[104,116,116,112,115,58,47,47,104,47,97,47,120,32,49,120,44,32,104,116,116,112,115,58,47,47,113,46,99,46,100,47,38,35,51,57,59,38,97,109,112,59]
theorem Xz:(iL J0 (partsOf QK)).isSome=true:=by decide+kernel
theorem aaY:BK [105,109,103] [115,114,99,115,101,116]=2:=by decide+kernel
theorem aaZ:BK [97] [104,114,101,102]=1:=by decide+kernel
theorem aeX:kZ Xy QL 1 aeW=(2,4,[]):=by decide+kernel
theorem aeY:kZ Xy QL 2 aeV=(3,0,aoX):=by decide+kernel
end Go.Proofs.YtmgmclkplepapaaGreatDoor
