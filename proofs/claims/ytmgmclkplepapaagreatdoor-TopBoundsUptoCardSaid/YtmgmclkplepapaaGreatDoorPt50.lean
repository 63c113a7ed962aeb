/- Part of the proof of TopBoundsUptoCardSaid. Conditions: none beyond the statement. -/
import Derived.Test.YtmgmclkplepapaaGreatDoorPt49
set_option linter.all false
set_option maxRecDepth 100000
set_option maxHeartbeats 64000000
namespace Go.Proofs.YtmgmclkplepapaaGreatDoor
open Go.RowKit
theorem aaS:∀i:Fin 256,(GL (UInt8.ofNat i.val)).length=kR (UInt8.ofNat i.val):=by decide+kernel
theorem aeS (c:UInt8):(GL c).length=kR c:=by have h:=aaS ⟨c.toNat,c.toNat_lt⟩;simpa using h
theorem aeT (l:List UInt8):(gW l).length=dL l:=by
 induction l with
 |nil=>rfl
 |cons c l ih=>rw[FZ,List.length_append,lM,aeS,ih]
theorem QG:cN.all (fun t=>decide (0≤t.2.2)&&decide (t.2.2≤3))=true:=by decide+kernel
theorem aaT (a b:List UInt8):∃k:Nat,k≤3∧kindOf a b=(k:Int):=by
 unfold kindOf;cases h:look a b cN with
 |none=>exact⟨0,by omega,rfl⟩
 |some v=>have h1:=List.all_eq_true.1 QG _ (yA h);simp only[Bool.and_eq_true,decide_eq_true_eq] at h1;exact⟨v.toNat,by omega,by simp;omega⟩
theorem TQ (p:eH):T6 (R0 p):=⟨ZY,Fz,fun s r h=>vU h⟩
theorem QH (p:eH) (kind:Nat) (l:List fV):tI (R0 p) kind l=l.filter (oM p kind):=rfl
theorem Gj (p:eH) (kind:Nat) (b:bD) (s:List UInt8):(eP (R0 p) kind b s).1.length≤s.length+1:=by
 unfold eP;split;·simp
 ·split;·rw[List.length_map];exact Nat.le_trans (D5 _ _ _) (Nat.le_succ _)
  ·split
   ·split;·simp
    ·split<;>simp
   ·simp
theorem TR (p:eH) (kind:Nat) {b:bD} (hb:b.scheme=aN→b.opaq=false) (s:List UInt8):∀it∈(eP (R0 p) kind b s).1,(aQ J0 it.url true).length≤5*s.length+dL (aQ J0 b true)+58∧it.words.length≤s.length:=by
 have one:∀t:List UInt8,t.length≤s.length+1→(aQ J0 (nX (R0 p) b t).url true).length≤5*s.length+dL (aQ J0 b true)+58∧(nX (R0 p) b t).words=[]:=by
  intro t ht;constructor
  ·by_cases hr:(nX (R0 p) b t).right=true;·have h1:=GY (TQ p) hb hr;have h2:=AL (aQ (R0 p).J (nX (R0 p) b t).url true);have h3:aQ (R0 p).J (nX (R0 p) b t).url true=aQ J0 (nX (R0 p) b t).url true:=rfl;have h4:aQ (R0 p).J b true=aQ J0 b true:=rfl;rw[h3] at h1 h2;rw[h4] at h1;omega
   ·have:nX (R0 p) b t={}:=by
     unfold nX at hr⊢;split;·rfl
     ·rename_i u hu;rw[hu] at hr;exact absurd rfl hr
    rw[this];have h5:(aQ J0 ({}:fV).url true).length=1:=by decide+kernel
    omega
  ·unfold nX;split<;>rfl
 unfold eP;split;·intro it h;rw[List.mem_singleton] at h;subst h;have:=one s (by omega);exact⟨this.1,by rw[this.2];simp⟩
 ·split;·intro it h;obtain⟨c,hc,rfl⟩:=List.mem_map.1 h;have h1:=LL hc;have h2:=CD (R0 p).Et s;exact⟨(one c.url (by omega)).1,by simp only;omega⟩
  ·split
   ·split;·intro it h;exact absurd h (by simp)
    ·rename_i r hr;have h1:=vU hr;split;·intro it h;rw[List.mem_singleton] at h;subst h;have:=one r.url (by omega);exact⟨this.1,by rw[this.2];simp⟩
     ·intro it h;rw[List.mem_singleton] at h;subst h;have:=AL (aQ J0 b true);exact⟨by simp only;omega,by simp⟩
   ·intro it h;exact absurd h (by simp)
theorem Xv (p:eH) (kind:Nat) {b:bD} (hb:b.scheme=aN→b.opaq=false) (raw:List UInt8):
 (gW (mA (R0 p) kind ((eP (R0 p) kind b (eD raw)).1.filter (oM p kind)) (eP (R0 p) kind b (eD raw)).2)).length≤15*raw.length+(eP (R0 p) kind b (eD raw)).1.length*(5*(aQ J0 b true).length+64):=by
 rw[aeT,←QH];have h1:=T7 (TQ p) hb kind (eD raw);have h2:(eD raw).length≤3*raw.length:=by have h1:=En _ raw (Nat.le_refl _);have h2:=N9 (dM (eI raw));unfold eD;omega
 have h3:=Ep (aQ J0 b true);have h4:aQ (R0 p).J b true=aQ J0 b true:=rfl;rw[h4] at h1;have h5:(eP (R0 p) kind b (eD raw)).1.length*(dL (aQ J0 b true)+64)≤(eP (R0 p) kind b (eD raw)).1.length*(5*(aQ J0 b true).length+64):=Nat.mul_le_mul_left _ (by omega);omega
theorem JG (l:List UInt8):(eD l).length≤3*l.length:=by have h1:=En _ l (Nat.le_refl _);have h2:=N9 (dM (eI l));unfold eD;omega
theorem JH {N0:Nat→Prop} {arr:Array Value} {b:bD} {w:World} (p:eH) (kind:Nat) (hk:kind≤3) (hb:cT N0 w arr b) (kZ:b.path.length≤10000000) {v:Value} {l:List UInt8} (hv:eR w v l) (hl:l.length≤300000) (hW:Laid w):Calls Tryz.prog 9 #[.int .i64 kind,.agg arr,v] w fun e w'=>Cz (eP (R0 p) kind b (eD l)) w e w':=by
 have HW:=hid hW;have HU:=hid hb;have HV:=hid hv;have qW:=hid hb.dH;have Us:=JG l;have HVA:=hid (fun W hW h=>PW v l W hW h (by omega));have MR:=hid (fun W (h:cT N0 W arr b) hW=>QA (w:=W) p kind hk h kZ (eD l) (by omega) hW);generalize eP (R0 p) kind b (eD l)=R at*;generalize eD l=x at*;obtain⟨A,c,Ee,_,_⟩:=hv.len;subst Ee;have HB:Hid (Below w.heap.size w w):=hid (Below.refl _ _);clear hW hb hv kZ;go_enter Tryz.func9,Tryz.ntmps9;go_wp2_with (first|(refine jG (arr:=arr) rfl rfl ?_;intro gB w2 aE hN;have Ky:=jU HB hN;replace HB:=aR HB hN.out.2.1;clear hN)|(refine eX rfl (eS _) ?_;intro gA w2 cP hN;have eF:=fU aE hN;have GS:=jU HB hN;replace aE:=aE.below hN.out.2.1;replace HB:=aR HB hN.out.2.1;clear hN));have He:=hid cP.lt;have HL9:=hid (HW.out.below HB.out HW.out.size);have JU:Hid (∀W,fX w2.drew W→Laid W∧cT N0 W arr b∧eR W (.slice A l.length c) l):=hid (fun W hW=>⟨(HL9.out.step (bB _)).step hW,((HU.out.below HB.out).below (bB _)).below hW,((HV.out.below HB.out).below (bB _)).below hW⟩);apply kG fX [.val _,.val (.agg arr),.val _,.val (.string (aA x)),.any (fun v W=>∃sv,v= .agg #[sv,.string (aA R.2)]∧jF (Aw w2.heap.size iF) 52 25 W (w2.heap.size+1) sv R.1)] 5 _ rfl rfl rfl (by kernel_rfl) (by kernel_rfl) (by kernel_rfl) mL;simp only[List.take_succ_cons,List.take_zero];apply aS.val; ·rfl
 ·intro W hW hF K hK;go_simp;exact hK _ (Below.refl _ _)
 simp only[pq];apply aS.val; ·rfl
 ·intro W hW hF K hK;exact DZ 34 _ rfl gB 23 rfl (fX.row aE hW) _ Tryz.underlying34 rfl qW.out.1 (by kernel_rfl) (hK _ (Below.refl _ _))
 simp only[pq];apply aS.val; ·rfl
 ·intro W hW hF K hK;go_simp;exact hK _ (Below.refl _ _)
 simp only[pq];apply aS.val; ·rfl
 ·intro W hW hF K hK;go_simp;go_at_call 21;refine(HVA.out _ (JU.out _ hW).1 (JU.out _ hW).2.2).mono ?_;rintro e w3 ⟨rfl,dE⟩;exact hK _ dE
 simp only[pq];apply aS.any;·rfl
 ·rfl
 ·rintro v W W' ⟨ar,rfl,h⟩ hg;exact⟨ar,rfl,h.below (aY.aw _) hg⟩
 ·intro W hW hF K hK;go_simp;go_at_call 20;refine(MR.out _ (JU.out _ hW).2.1 (JU.out _ hW).1).mono ?_;rintro e w3 ⟨dE,ar,rfl,h2⟩;exact hK _ _ dE ⟨ar,rfl,(h2.LH aY hW.size).mono (Nat.succ_le_succ hW.size)⟩
 intro u10;simp only[pq];refine aS.nil ?_;intro w8 rA iJ;obtain⟨⟨sv,rfl,hs8⟩,_⟩:=iJ;obtain⟨sa,sc,hsv,_⟩:=(hs8.read (aY.aw _)).len;subst hsv;have HS8:=hid hs8;replace HB:=hid (HB.out.trans (((bB _).trans (rA.mono (Nat.le_refl _))).mono HB.out.size));replace cP:=fX.row cP rA;clear rA hs8 aE;refine Ls 43 _ _ rfl gA _ rfl rfl cP rfl (by kernel_rfl) (by kernel_rfl) fun w9 aoT he9=>?_;have HS9:=hid (HS8.out.oK aY (Nat.le_of_lt He.out) (Nat.lt_succ_self _) (bL.of he9));replace HB:=bU HB he9.1 GS;go_wp2_with fail;refine bK rfl rfl aoT Tryz.underlying43 rfl (by kernel_rfl) rfl ?_;exact⟨HB.out,_,rfl,(HS9.out.LH aY (Nat.le_trans GS (Nat.le_of_lt He.out))).mono (Nat.succ_le_succ (Nat.le_trans GS (Nat.le_of_lt He.out)))⟩
def ajF (kind:Nat) (AS len:Int) (right any:Bool) (K:List fV) (O:List UInt8):Int×Int×List UInt8:=
 if kind=0 then(1,0,[]) else if AS < len then(2,1,[]) else if right=false then(2,2,[]) else if any=false then(2,3,[]) else if K=[] then(2,4,[]) else if AS < (O.length:Int) then(2,1,[]) else(3,0,O)
def kY (p:eH) (b:bD) (kind:Nat) (raw:List UInt8):Int×Int×List UInt8:=
 ajF kind p.AS raw.length (CX b) ((eP (R0 p) kind b (eD raw)).1.any (·.right)) ((eP (R0 p) kind b (eD raw)).1.filter (oM p kind)) (gW (mA (R0 p) kind ((eP (R0 p) kind b (eD raw)).1.filter (oM p kind)) (eP (R0 p) kind b (eD raw)).2))
def BJ (el nm:List UInt8):Nat:=(kindOf (rH el) (rH nm)).toNat
theorem D6 (el nm:List UInt8):kindOf (rH el) (rH nm)=(BJ el nm:Int)∧BJ el nm≤3:=by obtain⟨k,h1,h2⟩:=aaT (rH el) (rH nm);unfold BJ;rw[h2];exact⟨by simp,by simpa using h1⟩
theorem C1 {o:Int×Int×List UInt8} {a b:Int} {l:List UInt8} (h:o=(a,b,l)):Ending.returned (.agg (Ag a b l))= .returned (.agg (Ag o.1 o.2.1 o.2.2)):=by rw[h]
theorem filter_filter {N0:Nat→Prop} {kX arr:Array Value} {p:eH} {b:bD} {w:World} {v:Value} {raw:List UInt8} (el nm:List UInt8) (hp:pY w kX p) (hb:cT N0 w arr b) (hbf:b.scheme=aN→b.opaq=false) (dB:dL (aQ J0 b true)≤2000) (hv:eR w v raw) (hr:raw.length≤300) (hel:el.length≤1000) (hnm:nm.length≤1000) (hW:Laid w):
 Calls Tryz.prog 7 #[.agg kX,.agg arr,.string (aA el),.string (aA nm),v] w fun e w'=>e= .returned (.agg (Ag (kY p b (BJ el nm) raw).1 (kY p b (BJ el nm) raw).2.1 (kY p b (BJ el nm) raw).2.2))∧Below w.heap.size w w':=by
 have YB:=AL (aQ J0 b true);have kZ:b.path.length≤2000:=by obtain⟨pv,_,_,hu⟩:=hb;exact Nat.le_trans (Nh hu) dB
 have Us:=JG raw;have XI:=(D6 el nm).2;have HKI:=hid (fun W=>Ii (aA el) (aA nm) W (by rw[aD];omega) (by rw[aD];omega));rw[aC,aC,(D6 el nm).1] at HKI;generalize BJ el nm=kind at*;have HRI:=hid (fun W (h:cT N0 W arr b) hW=>Qo h (by omega) (w:=W) hW);have Lq:=hid (fun W (h:cT N0 W arr b) (hv:eR W v raw) hW=>JH p kind XI h (by omega) hv (by omega) (w:=W) hW);have Mt:=Gj p kind b (eD raw);have afY:=TR p kind hbf (eD raw);have Mt:(eP (R0 p) kind b (eD raw)).1.length≤1000:=by omega
 have hL:∀it∈(eP (R0 p) kind b (eD raw)).1,(aQ J0 it.url true).length≤100000000∧it.words.length≤1000000000:=fun it h=>by have:=afY it h;omega
 have XO:=T7 (TQ p) hbf kind (eD raw);rw[QH] at XO;have hew:=AL (mA (R0 p) kind ((eP (R0 p) kind b (eD raw)).1.filter (oM p kind)) (eP (R0 p) kind b (eD raw)).2);have W2:(mA (R0 p) kind ((eP (R0 p) kind b (eD raw)).1.filter (oM p kind)) (eP (R0 p) kind b (eD raw)).2).length≤100000000:=by have h4:aQ (R0 p).J b true=aQ J0 b true:=rfl;rw[h4] at XO;have:(eP (R0 p) kind b (eD raw)).1.length*(dL (aQ J0 b true)+64)≤1000*2064:=Nat.mul_le_mul Mt (by omega);omega
 have UU:Hid (kY p b kind raw=ajF kind p.AS raw.length (CX b) ((eP (R0 p) kind b (eD raw)).1.any (·.right)) ((eP (R0 p) kind b (eD raw)).1.filter (oM p kind)) (gW (mA (R0 p) kind ((eP (R0 p) kind b (eD raw)).1.filter (oM p kind)) (eP (R0 p) kind b (eD raw)).2))):=hid rfl;generalize kY p b kind raw=V at*;clear XO hew dB YB kZ Us afY;generalize eP (R0 p) kind b (eD raw)=R at*;generalize CX b=right at*;obtain⟨I,D⟩:=R;simp only at Mt hL W2 UU;have HCO:=hid (fun v W (h:oW iF 52 25 W v I)=>JF I v W h (by omega));have HKE:=hid (fun v W (h:oW iF 52 25 W v I) (hp:pY W kX p) hW=>Ny p kind XI I D v kX W h (by omega) hL hp hW);have mD:(I.filter (oM p kind)).length≤I.length:=List.length_filter_le _ _;have HEM:=hid (fun v W (h:oW iF 52 25 W v (I.filter (oM p kind))) hW=>TM p kind XI (I.filter (oM p kind)) D v W h (by omega) W2 hW);have HOL:Hid ((gW (mA (R0 p) kind (I.filter (oM p kind)) D)).length≤500000000):=hid (by have:=(I2 (mA (R0 p) kind (I.filter (oM p kind)) D)).2;omega);generalize gW (mA (R0 p) kind (I.filter (oM p kind)) D)=O at*;have hkc:(I.filter (oM p kind)).length≤1000:=by omega
 generalize I.filter (oM p kind)=K at*;generalize I.any (·.right)=aoU at*;have Zk:=hid (fun y W=>QE y W);have HW:=hid hW;have HP:=hid hp;have HU:=hid hb;have HVW:=hid hv;have NG:=hid hp.dH;have qW:=hid hb.dH;obtain⟨_,_,_,_,_,_,_,_,_,_,_,_,Xe⟩:=hp.cells;obtain⟨A0,c0,Ee,_,_⟩:=hv.len;subst Ee;have HZO:=hid (aD O);have HB:Hid (Below w.heap.size w w):=hid (Below.refl _ _);clear hp hb hv hW W2 hL mD;generalize p.AS=AS at*;go_enter Tryz.func7,Tryz.ntmps7;go_wp2_with (first|(refine jG (d:=5) (arr:=kX) rfl rfl ?_;intro gP w2 aK hN;have UM:=jU HB hN;replace HB:=aR HB hN.out.2.1;clear hN)|(refine jG (d:=6) (arr:=arr) rfl rfl ?_;intro gU w2 bR hN;have bN:=fU aK hN;have Eh:=jU HB hN;replace aK:=aK.below hN.out.2.1;replace HB:=aR HB hN.out.2.1;clear hN)|(refine eX rfl (B5 _) ?_;intro gV w2 dA hN;have D7:=fU aK hN;have D8:=fU bR hN;have Tz:=jU HB hN;replace aK:=aK.below hN.out.2.1;replace bR:=bR.below hN.out.2.1;replace HB:=aR HB hN.out.2.1;clear hN));refine(HKI.out _).mono ?_;rintro e w2 ⟨rfl,aM⟩;replace aK:=aK.below aM;replace bR:=bR.below aM;replace dA:=dA.below aM;replace HB:=aR HB aM;clear aM HKI;by_cases zO:kind=0;·subst zO;go_wp2_with (first|(refine aG rfl 38 _ rfl _ (.agg (Ag 1 0 [])) (TN _) ?_)|(refine lU rfl dA rfl (by kernel_rfl) ?_;intro w1 aH aB;replace aK:=aK.other aB (Nat.ne_of_lt D7);replace bR:=bR.other aB (Nat.ne_of_lt D8);replace HB:=bU HB aB.1 Tz;replace dA:=aH;clear aB aH));refine bK rfl rfl dA Tryz.underlying38 rfl (by kernel_rfl) rfl ?_;exact⟨C1 (UU.out.trans rfl),HB.out⟩
 have hkz:((kind:Int)==0)=false:=by simp;omega
 replace UU:=hid (UU.out.trans (if_neg zO));by_cases TY:AS < (raw.length:Int);·have VV:AS < (raw.length:Int):=TY;go_wp2_with (refine eC 3 rfl aK _ rfl Xe L3 ?_);refine(Zk.out 1 _).mono ?_;rintro e w3 ⟨rfl,aM⟩;replace aK:=aK.below aM;replace bR:=bR.below aM;replace dA:=dA.below aM;replace HB:=aR HB aM;go_wp2_with (refine lU rfl dA rfl (by kernel_rfl) ?_;intro w1 aH aB;replace aK:=aK.other aB (Nat.ne_of_lt D7);replace bR:=bR.other aB (Nat.ne_of_lt D8);replace HB:=bU HB aB.1 Tz;replace dA:=aH;clear aB aH);refine bK rfl rfl dA Tryz.underlying38 rfl (by kernel_rfl) rfl ?_;exact⟨C1 (UU.out.trans (if_pos TY)),HB.out⟩
 replace UU:=hid (UU.out.trans (if_neg TY));go_wp2_with (first|(refine eC 3 rfl aK _ rfl Xe L3 ?_)|(refine fF rfl bR jP qW.out.1 rfl ?_));refine(HRI.out _ (HU.out.below HB.out) (HW.out.below HB.out HW.out.size)).mono ?_;rintro e w4 ⟨rfl,aM⟩;replace aK:=aK.below aM;replace bR:=bR.below aM;replace dA:=dA.below aM;replace HB:=aR HB aM;clear aM HRI TY hkz;cases right with
 |false=>go_wp2_with fail;refine(Zk.out 2 _).mono ?_;rintro e w3 ⟨rfl,aM⟩;replace aK:=aK.below aM;replace bR:=bR.below aM;replace dA:=dA.below aM;replace HB:=aR HB aM;go_wp2_with (refine lU rfl dA rfl (by kernel_rfl) ?_;intro w1 aH aB;replace aK:=aK.other aB (Nat.ne_of_lt D7);replace bR:=bR.other aB (Nat.ne_of_lt D8);replace HB:=bU HB aB.1 Tz;replace dA:=aH;clear aB aH);refine bK rfl rfl dA Tryz.underlying38 rfl (by kernel_rfl) rfl ?_;exact⟨C1 (UU.out.trans rfl),HB.out⟩
 |true=>
  go_wp2_with (refine fF rfl bR jP qW.out.1 rfl ?_);refine(Lq.out _ (HU.out.below HB.out) (HVW.out.below HB.out) (HW.out.below HB.out HW.out.size)).mono ?_;rintro e w5 ⟨aM,v5,rfl,ho5⟩;have GI:=hid (fun W (hb:Below w5.heap.size w5 W)=>((ho5.aaI aY).read aY).below aY hb);obtain⟨a5,c5,hv5,_⟩:=((ho5.aaI aY).read aY).len;subst hv5;have iI:Hid (Below w5.heap.size w5 w5):=hid (Below.refl _ _);replace aK:=aK.below aM;replace bR:=bR.below aM;replace dA:=dA.below aM;replace HB:=aR HB aM;clear aM ho5 Lq;go_wp2_with (first|(refine eX rfl (eS _) ?_;intro gD w2 tD hN;have amH:=fU aK hN;have amI:=fU bR hN;have amJ:=fU dA hN;have lgD:=jU HB hN;replace aK:=aK.below hN.out.2.1;replace bR:=bR.below hN.out.2.1;replace dA:=dA.below hN.out.2.1;replace HB:=aR HB hN.out.2.1;have k5:w5.heap.size≤gD:=(by have:=iI.out.size;have:=hN.out.1;omega);replace iI:=aR iI hN.out.2.1;clear hN)|(refine lU rfl tD rfl (by kernel_rfl) ?_;intro w1 aH aB;replace aK:=aK.other aB (Nat.ne_of_lt amH);replace bR:=bR.other aB (Nat.ne_of_lt amI);replace dA:=dA.other aB (Nat.ne_of_lt amJ);replace iI:=bU iI aB.1 k5;replace HB:=bU HB aB.1 lgD;replace tD:=aH;clear aB aH)|(refine eC 0 rfl tD _ rfl rfl L41 ?_));refine(HCO.out _ _ (GI.out _ iI.out)).mono ?_;rintro e w6 ⟨rfl,aM⟩;replace aK:=aK.below aM;replace bR:=bR.below aM;replace dA:=dA.below aM;replace tD:=tD.below aM;replace HB:=aR HB aM;replace iI:=aR iI aM;clear aM HCO;cases aoU with
  |false=>go_wp2_with fail;refine(Zk.out 3 _).mono ?_;rintro e w3 ⟨rfl,aM⟩;replace aK:=aK.below aM;replace bR:=bR.below aM;replace dA:=dA.below aM;replace tD:=tD.below aM;replace HB:=aR HB aM;go_wp2_with (refine lU rfl dA rfl (by kernel_rfl) ?_;intro w1 aH aB;replace aK:=aK.other aB (Nat.ne_of_lt D7);replace bR:=bR.other aB (Nat.ne_of_lt D8);replace HB:=bU HB aB.1 Tz;replace dA:=aH;clear aB aH);refine bK rfl rfl dA Tryz.underlying38 rfl (by kernel_rfl) rfl ?_;exact⟨C1 (UU.out.trans rfl),HB.out⟩
  |true=>
   go_wp2_with (first|(refine fF rfl aK R24 NG.out.1 rfl ?_)|(refine fF rfl tD R43 rfl rfl ?_));refine(HKE.out _ _ (GI.out _ iI.out) (HP.out.below HB.out) (HW.out.below HB.out HW.out.size)).mono ?_;rintro e w7 ⟨aM,v7,rfl,ho7⟩;have HRK:=hid (fun W (hb:Below w7.heap.size w7 W)=>ho7.below aY hb);obtain⟨a7,c7,hv7,_⟩:=ho7.len;subst hv7;have AD:Hid (Below w7.heap.size w7 w7):=hid (Below.refl _ _);replace aK:=aK.below aM;replace bR:=bR.below aM;replace dA:=dA.below aM;replace tD:=tD.below aM;replace HB:=aR HB aM;clear aM ho7 HKE GI iI Mt;by_cases hK:K=[]
   ·have hkz:((K.length:Int)==0)=true:=by rw[hK];rfl
    go_wp2_with (first|(refine eX rfl (eS _) ?_;intro gK w2 tC hN;have UT:=fU aK hN;have aaU:=fU bR hN;have aaV:=fU dA hN;have aaW:=fU tD hN;have lgK:=jU HB hN;replace aK:=aK.below hN.out.2.1;replace bR:=bR.below hN.out.2.1;replace dA:=dA.below hN.out.2.1;replace tD:=tD.below hN.out.2.1;replace HB:=aR HB hN.out.2.1;have k7:w7.heap.size≤gK:=(by have:=AD.out.size;have:=hN.out.1;omega);replace AD:=aR AD hN.out.2.1;clear hN)|(refine lU rfl tC rfl (by kernel_rfl) ?_;intro w1 aH aB;replace aK:=aK.other aB (Nat.ne_of_lt UT);replace bR:=bR.other aB (Nat.ne_of_lt aaU);replace dA:=dA.other aB (Nat.ne_of_lt aaV);replace tD:=tD.other aB (Nat.ne_of_lt aaW);replace AD:=bU AD aB.1 k7;replace HB:=bU HB aB.1 lgK;replace tC:=aH;clear aB aH)|(refine eC 0 rfl tC _ rfl rfl L41 ?_));refine(Zk.out 4 _).mono ?_;rintro e w3 ⟨rfl,aM⟩;replace aK:=aK.below aM;replace bR:=bR.below aM;replace dA:=dA.below aM;replace tD:=tD.below aM;replace tC:=tC.below aM;replace HB:=aR HB aM;go_wp2_with (refine lU rfl dA rfl (by kernel_rfl) ?_;intro w1 aH aB;replace aK:=aK.other aB (Nat.ne_of_lt D7);replace bR:=bR.other aB (Nat.ne_of_lt D8);replace HB:=bU HB aB.1 Tz;replace dA:=aH;clear aB aH);refine bK rfl rfl dA Tryz.underlying38 rfl (by kernel_rfl) rfl ?_;exact⟨C1 (UU.out.trans (if_pos hK)),HB.out⟩
   have hkz:((K.length:Int)==0)=false:=by have:0 < K.length:=List.length_pos_iff.mpr hK;simp;omega
   replace UU:=hid (UU.out.trans (if_neg hK));go_wp2_with (first|(refine eX rfl (eS _) ?_;intro gK w2 tC hN;have UT:=fU aK hN;have aaU:=fU bR hN;have aaV:=fU dA hN;have aaW:=fU tD hN;have lgK:=jU HB hN;replace aK:=aK.below hN.out.2.1;replace bR:=bR.below hN.out.2.1;replace dA:=dA.below hN.out.2.1;replace tD:=tD.below hN.out.2.1;replace HB:=aR HB hN.out.2.1;have k7:w7.heap.size≤gK:=(by have:=AD.out.size;have:=hN.out.1;omega);replace AD:=aR AD hN.out.2.1;clear hN)|(refine lU rfl tC rfl (by kernel_rfl) ?_;intro w1 aH aB;replace aK:=aK.other aB (Nat.ne_of_lt UT);replace bR:=bR.other aB (Nat.ne_of_lt aaU);replace dA:=dA.other aB (Nat.ne_of_lt aaV);replace tD:=tD.other aB (Nat.ne_of_lt aaW);replace AD:=bU AD aB.1 k7;replace HB:=bU HB aB.1 lgK;replace tC:=aH;clear aB aH)|(refine eC 0 rfl tC _ rfl rfl L41 ?_)|(refine fF rfl tC R43 rfl rfl ?_));refine(HEM.out _ _ (HRK.out _ AD.out) (HW.out.below HB.out HW.out.size)).mono ?_;rintro e w8 ⟨rfl,aM⟩;replace aK:=aK.below aM;replace bR:=bR.below aM;replace dA:=dA.below aM;replace tD:=tD.below aM;replace tC:=tC.below aM;replace HB:=aR HB aM;clear aM HEM HRK AD;by_cases VV:AS < (O.length:Int)
   ·have hmz:AS < ((aA O).size:Int):=by rw[HZO.out];exact VV
    go_wp2_with (refine eC 3 rfl aK _ rfl Xe L3 ?_);refine(Zk.out 1 _).mono ?_;rintro e w3 ⟨rfl,aM⟩;replace aK:=aK.below aM;replace bR:=bR.below aM;replace dA:=dA.below aM;replace tD:=tD.below aM;replace tC:=tC.below aM;replace HB:=aR HB aM;go_wp2_with (refine lU rfl dA rfl (by kernel_rfl) ?_;intro w1 aH aB;replace aK:=aK.other aB (Nat.ne_of_lt D7);replace bR:=bR.other aB (Nat.ne_of_lt D8);replace HB:=bU HB aB.1 Tz;replace dA:=aH;clear aB aH);refine bK rfl rfl dA Tryz.underlying38 rfl (by kernel_rfl) rfl ?_;exact⟨C1 (UU.out.trans (if_pos VV)),HB.out⟩
   ·have hmz:¬AS < ((aA O).size:Int):=by rw[HZO.out];exact VV
    have HMO:=hid VV;clear VV;go_wp2_with (first|(refine eC 3 rfl aK _ rfl Xe L3 ?_)|(refine aG rfl 38 _ rfl _ (.agg (Ag 3 0 O)) (TO _ _) ?_)|(refine lU rfl dA rfl (by kernel_rfl) ?_;intro w1 aH aB;replace aK:=aK.other aB (Nat.ne_of_lt D7);replace bR:=bR.other aB (Nat.ne_of_lt D8);replace HB:=bU HB aB.1 Tz;replace dA:=aH;clear aB aH));refine bK rfl rfl dA Tryz.underlying38 rfl (by kernel_rfl) rfl ?_;exact⟨C1 (UU.out.trans (if_neg (by have:=HMO.out;omega))),HB.out⟩
def amK (e:Ending):Prop:=∃bl:Bool,e= .returned (.bool bl)
theorem Xw {kX:Array Value} {p:eH} {w:World} (hp:pY w kX p):Calls Tryz.prog 5 #[.agg kX] w fun e w'=>amK e∧Below w.heap.size w w':=by
 obtain⟨a0,c0,a1,c1,a2,c2,h0,r0,h1,r1,h2,r2,_⟩:=hp.cells;have hpo:afP p:=by obtain⟨_,_,_,_,_,_,_,ok⟩:=hp;exact ok
 have HL:Hid (∀k,k < 3→∃(a:Option Addr) (L:List (List UInt8)) (c:Nat),(#[.slice a0 p.nR.length c0,.slice a1 p.vV.length c1,.slice a2 p.types.length c2]:Array Value)[k]? =some (.slice a L.length c)∧bT w (.slice a L.length c) (L.map aA)∧L.length≤1000000000):=hid (fun k hk=>by
  match k,hk with
  |0,_=>exact⟨a0,p.nR,c0,rfl,r0,hpo.n0⟩
  |1,_=>exact⟨a1,p.vV,c1,rfl,r1,hpo.n1⟩
  |2,_=>exact⟨a2,p.types,c2,rfl,r2,hpo.n2⟩)
 have HB:Hid (Below w.heap.size w w):=hid (Below.refl _ _);clear hp r0 r1 r2 hpo;generalize p.nR.length=n0 at*;generalize p.vV.length=n1 at*;generalize p.types.length=n2 at*;go_enter Tryz.func5,Tryz.ntmps5;go_upto_region 2 with(first|(refine jG (arr:=kX) rfl rfl ?_;intro gP w2 aK hN;replace HB:=aR HB hN.out.2.1;clear hN)|(refine eC 0 rfl aK _ rfl h0 NF ?_)|(refine eC 1 rfl aK _ rfl h1 NF ?_)|(refine eC 2 rfl aK _ rfl h2 NF ?_))
 have HRA:=hid (Row.new w2 22 #[Value.slice a0 n0 c0,Value.slice a1 n1 c1,Value.slice a2 n2 c2]);replace HB:=hid (HB.out.trans ((xB w2 (Obj.cells #[Value.slice a0 n0 c0,Value.slice a1 n1 c1,Value.slice a2 n2 c2] 22)).mono HB.out.size));generalize #[Value.slice a0 n0 c0,Value.slice a1 n1 c1,Value.slice a2 n2 c2]=all at*;generalize w2.heap.size=gA at*;generalize w2.alloc (Obj.cells all 22)=w3 at*;clear h0 h1 h2 aK;go_wp2_with fail;go_loopg [4] 4 (fun gz s4 wr=>∃k:Nat,gz=4 - k∧k≤3∧s4= .int .i64 (k:Int)∧w3=wr);case atStart=>exact⟨0,rfl,by omega,rfl,rfl⟩
 case round=>
  obtain⟨k,rfl,XI,rfl,rfl⟩:=hrel;by_cases hk:k < 3
  ·have hko:(k:Int) < 3:=by omega
   obtain⟨a,L,c,aW,hrd,hLn⟩:=HL.out k hk;have aL:=HRA.out;have GI:=hid (hrd.below HB.out);have h3:(k:Int) < ((3:Nat):Int):=by omega
   clear hrd;go_wp2_with (refine eC k rfl aL _ rfl aW NF ?_);go_loopg [5] 31 (fun gy s5 wr=>∃i:Nat,gy=31 - i∧i≤30∧i≤L.length∧s5= .int .i64 (i:Int)∧w3=wr);case atStart=>exact⟨0,rfl,by omega,Nat.zero_le _,rfl,rfl⟩
   case round=>
    obtain⟨i,rfl,aqV,hiL,rfl,rfl⟩:=hrel;by_cases hi:i < L.length
    ·have hio:(i:Int) < (L.length:Int):=by omega
     by_cases h30:i < 30
     ·have aoV:(i:Int) < 30:=by omega
      obtain⟨gp,off,rfl,hc⟩:=GI.out.cellAt (show i < (L.map aA).length by simpa using hi);rw[List.getElem_map] at hc;have Kf:=hid (aD L[i]);generalize L[i]'hi=x at*;by_cases hx:x.length≤200
      ·have hxo:((aA x).size:Int)≤200:=by rw[Kf.out];omega
       go_wp2_with (refine eC k rfl aL _ rfl aW NF ?_);go_roundg (31 - (i+1));case measure=>omega
       case rel=>exact⟨i+1,rfl,by omega,by omega,by go_num,rfl⟩
      ·have hxo:(200:Int) < ((aA x).size:Int):=by rw[Kf.out];omega
       go_wp2_with (refine eC k rfl aL _ rfl aW NF ?_);go_ret;exact⟨⟨false,rfl⟩,HB.out⟩
     ·have aoV:¬(i:Int) < 30:=by omega
      by_cases Dw:L.length≤20;·omega
      ·have amL:(20:Int) < (L.length:Int):=by omega
       go_wp2_with (refine eC k rfl aL _ rfl aW NF ?_);go_ret;exact⟨⟨false,rfl⟩,HB.out⟩
    ·have hio:¬(i:Int) < (L.length:Int):=by omega
     by_cases Dw:L.length≤20
     ·have amL:(L.length:Int)≤20:=by omega
      go_wp2_with (refine eC k rfl aL _ rfl aW NF ?_);go_roundg (4 - (k+1));case measure=>omega
      case rel=>exact⟨k+1,rfl,by omega,by go_num,rfl⟩
     ·have amL:(20:Int) < (L.length:Int):=by omega
      go_wp2_with (refine eC k rfl aL _ rfl aW NF ?_);go_ret;exact⟨⟨false,rfl⟩,HB.out⟩
  ·have hko:¬(k:Int) < 3:=by omega
   go_wp2_with fail;go_ret;exact⟨⟨true,rfl⟩,HB.out⟩
theorem TS (s:List UInt8) (hs:s.length≤5000000) (w:World) (hW:Laid w):Calls Tryz.prog 6 #[.string (aA s)] w fun e w'=>Below w.heap.size w w'∧∃ar,e= .returned (.tuple #[.agg ar,.bool ((iK J0 (partsOf s)).isSome&&decide (s.length≤300))])∧cT (fun x=>x < w.heap.size) w' ar ((iK J0 (partsOf s)).getD {}):=by
 have HW:=hid hW;have ZN:=hid (fun W hW=>BD s hs W hW);have HZ:=hid (aD s);generalize iK J0 (partsOf s)=JO at*;have HB:Hid (Below w.heap.size w w):=hid (Below.refl _ _);clear hW;go_enter Tryz.func6,Tryz.ntmps6;go_wp2_with (refine eX rfl (aO _) ?_;intro gO w2 bQ hN;have Nu:=jU HB hN;replace HB:=aR HB hN.out.2.1;clear hN);have EP:=hid bQ.lt;have yU:=hid HB.out.size;refine(ZN.out _ (HW.out.below HB.out HW.out.size)).mono ?_;rintro e w5 ⟨aM,ar,rfl,yM⟩;replace bQ:=bQ.below aM;replace HB:=aR HB aM;have lW:=hid (yM.lD (N':=fun x=>x < w.heap.size∨x=gO) (fun x hx=>hx.elim (fun h=>Nat.lt_of_lt_of_le h yU.out) (fun h=>by rw[h];exact EP.out)));have iI:Hid (Below w5.heap.size w5 w5):=hid (Below.refl _ _);have oZ:=yM.dH;clear aM yM ZN;have hdz:decide (((aA s).size:Int)≤300)=decide (s.length≤300):=by rw[HZ.out];by_cases h:s.length≤300<;>simp[h]<;>omega
 obtain⟨d,hd⟩:∃d,d=decide (s.length≤300):=⟨_,rfl⟩;rw[←hd] at hdz;have HD:=hid hd;clear hd;cases hj:JO.isSome with
 |false=>go_wp2_with (first|(refine eX rfl (aO _) ?_;intro gU w2 bR hN;have QI:=fU bQ hN;have Eh:=jU HB hN;replace bQ:=bQ.below hN.out.2.1;replace HB:=aR HB hN.out.2.1;have k5:w5.heap.size≤gU:=(by have:=iI.out.size;have:=hN.out.1;omega);replace iI:=aR iI hN.out.2.1;clear hN)|(refine vR rfl bR oZ jP rfl rfl ?_;intro w1 aH aB;replace bQ:=bQ.other aB (Nat.ne_of_lt QI);replace iI:=bU iI aB.1 k5;replace HB:=bU HB aB.1 Eh;replace bR:=aH;clear aB aH)|(refine fF rfl bR jP oZ.1 rfl ?_)|(refine vR rfl bQ oZ jP rfl rfl ?_;intro w1 aH aB;replace bR:=bR.other aB (Nat.ne_of_gt QI);have QZ:=hid ((lW.out.below iI.out).save (bL.of aB) (.inr rfl));clear iI;replace HB:=bU HB aB.1 Nu;replace bQ:=aH;clear aB aH));refine dT rfl 23 _ rfl rfl bQ Tryz.underlying34 rfl oZ.1 (by kernel_rfl) rfl ?_;exact⟨HB.out,_,by rw[hj,←HD.out];rfl,QZ.out.lD fun x hx=> .inl hx⟩
 |true=>go_wp2_with (first|(refine eX rfl (aO _) ?_;intro gU w2 bR hN;have QI:=fU bQ hN;have Eh:=jU HB hN;replace bQ:=bQ.below hN.out.2.1;replace HB:=aR HB hN.out.2.1;have k5:w5.heap.size≤gU:=(by have:=iI.out.size;have:=hN.out.1;omega);replace iI:=aR iI hN.out.2.1;clear hN)|(refine vR rfl bR oZ jP rfl rfl ?_;intro w1 aH aB;replace bQ:=bQ.other aB (Nat.ne_of_lt QI);replace iI:=bU iI aB.1 k5;replace HB:=bU HB aB.1 Eh;replace bR:=aH;clear aB aH)|(refine fF rfl bR jP oZ.1 rfl ?_)|(refine vR rfl bQ oZ jP rfl rfl ?_;intro w1 aH aB;replace bR:=bR.other aB (Nat.ne_of_gt QI);have QZ:=hid ((lW.out.below iI.out).save (bL.of aB) (.inr rfl));clear iI;replace HB:=bU HB aB.1 Nu;replace bQ:=aH;clear aB aH));refine dT rfl 23 _ rfl rfl bQ Tryz.underlying34 rfl oZ.1 (by kernel_rfl) rfl ?_;exact⟨HB.out,_,by rw[hj,←HD.out];rfl,QZ.out.lD fun x hx=> .inl hx⟩
def QJ:List UInt8:=[104,116,116,112,115,58,47,47,104,47,97,47,98]
def Xx:eH:=⟨[[104,116,116,112,115],[100,97,116,97]],[[104],[46,99,46,100]],[[105,109,97,103,101,47,112,110,103]],200⟩
def QK:bD:=(iK J0 (partsOf QJ)).getD {}
def aeU:List UInt8:=[120,32,49,120,44,47,47,101,32,50,120,44,32,104,116,116,112,115,58,47,47,81,46,67,46,68,47,39,38,97,109,112,59,44,32,100,97,116,97,58,105,109,97,103,101,47,103,105,102,44,97]
def aeV:List UInt8:=[106,97,118,97,38,84,97,98,59,115,99,114,105,112,116,58,120]
def aoW:List UInt8:=[104,116,116,112,115,58,47,47,104,47,97,47,120,32,49,120,44,32,104,116,116,112,115,58,47,47,113,46,99,46,100,47,38,35,51,57,59,38,97,109,112,59]
theorem Xy:(iK J0 (partsOf QJ)).isSome=true:=by decide+kernel
theorem aaX:BJ [105,109,103] [115,114,99,115,101,116]=2:=by decide+kernel
theorem aaY:BJ [97] [104,114,101,102]=1:=by decide+kernel
theorem aeW:kY Xx QK 1 aeV=(2,4,[]):=by decide+kernel
theorem aeX:kY Xx QK 2 aeU=(3,0,aoW):=by decide+kernel
end Go.Proofs.YtmgmclkplepapaaGreatDoor
