/- Part of the proof of TopBoundsUptoCardSaid. Conditions: none beyond the statement. -/
import Derived.Lib.SlBytesConst
import Derived.Test.YtmgmclkplepapaaGreatDoorPt50
set_option linter.all false
set_option maxRecDepth 100000
set_option maxHeartbeats 64000000
namespace Go.Proofs.YtmgmclkplepapaaGreatDoor
open Go.RowKit
theorem C3 {s:List UInt8} {b:bD} (h:(iL J0 (partsOf s)).getD {}=b):b.scheme=aN→b.opaq=false:=by
 cases hp:iL J0 (partsOf s) with
 |none=>rw[hp] at h;subst h;intro h;cases h
 |some u=>rw[hp] at h;obtain rfl:u=b:=h;exact Rg (J:=J0) (by decide+kernel) hp
theorem NA {s:List UInt8} {b:bD} (h:(iL J0 (partsOf s)).getD {}=b):dL (aQ J0 b true)≤5*s.length+54:=by
 cases hp:iL J0 (partsOf s) with
 |none=>
  rw[hp] at h;subst h;have:dL (aQ J0 {} true)=1:=by decide+kernel
  show dL (aQ J0 {} true)≤_;omega
 |some u=>rw[hp] at h;obtain rfl:u=b:=h;exact Qo hp
theorem Fu (w:World) (L:List (List UInt8)):bT (w.alloc (.cells (L.map fun l=>Value.string (aA l)).toArray 9)) (.slice (some ⟨w.heap.size,0,none⟩) L.length L.length) (L.map aA):=by
 refine .inr ⟨w.heap.size,0,L.length,by rw[List.length_map],by rw[List.length_map];exact Nat.le_refl _,fun j hj=>?_⟩;have KW:j < L.length:=by simpa using hj
 rw[World.cell?_alloc_mark w _ 9 (0,0) (0+j)];simp[KW]
def JJ (n:Nat):Array Value:= #[.slice (some ⟨n,0,none⟩) 2 2,.slice (some ⟨n+1,0,none⟩) 2 2,.slice (some ⟨n+1+1,0,none⟩) 1 1,.int .i64 200]
theorem abA (w:World) (W:World) (h:W=(((w.alloc (.cells #[.string ⟨#[104,116,116,112,115]⟩,.string ⟨#[100,97,116,97]⟩] 9)).alloc (.cells #[.string ⟨#[104]⟩,.string ⟨#[46,99,46,100]⟩] 9)).alloc (.cells #[.string ⟨#[105,109,97,103,101,47,112,110,103]⟩] 9)).alloc (.cells (JJ w.heap.size) 24)):
 pZ W (JJ w.heap.size) Xy∧Row W (w.heap.size+1+1+1) 24 (JJ w.heap.size)∧Below w.heap.size w W:=by
 subst h;have h1:=Fu w [[104,116,116,112,115],[100,97,116,97]];obtain⟨w1,Ib⟩:∃w1,w1=w.alloc (.cells #[.string ⟨#[104,116,116,112,115]⟩,.string ⟨#[100,97,116,97]⟩] 9):=⟨_,rfl⟩;have e1:w1.heap.size=w.heap.size+1:=by rw[Ib];simp
 have b1:Below w.heap.size w w1:=by rw[Ib];exact xC _ _
 replace h1:bT w1 (.slice (some ⟨w.heap.size,0,none⟩) 2 2) ([[104,116,116,112,115],[100,97,116,97]].map aA):=by rw[Ib];exact h1
 rw[←Ib];have h2:=Fu w1 [[104],[46,99,46,100]];obtain⟨w2,JS⟩:∃w2,w2=w1.alloc (.cells #[.string ⟨#[104]⟩,.string ⟨#[46,99,46,100]⟩] 9):=⟨_,rfl⟩;have e2:w2.heap.size=w.heap.size+1+1:=by rw[JS];simp[e1]
 have b2:Below w1.heap.size w1 w2:=by rw[JS];exact xC _ _
 replace h2:bT w2 (.slice (some ⟨w.heap.size+1,0,none⟩) 2 2) ([[104],[46,99,46,100]].map aA):=by rw[JS,←e1];exact h2
 rw[←JS];have h3:=Fu w2 [[105,109,97,103,101,47,112,110,103]];obtain⟨w3,hw3⟩:∃w3,w3=w2.alloc (.cells #[.string ⟨#[105,109,97,103,101,47,112,110,103]⟩] 9):=⟨_,rfl⟩;have e3:w3.heap.size=w.heap.size+1+1+1:=by rw[hw3];simp[e2]
 have b3:Below w2.heap.size w2 w3:=by rw[hw3];exact xC _ _
 replace h3:bT w3 (.slice (some ⟨w.heap.size+1+1,0,none⟩) 1 1) ([[105,109,97,103,101,47,112,110,103]].map aA):=by rw[hw3,←e2];exact h3
 rw[←hw3,←e3];have b4:Below w3.heap.size w3 (w3.alloc (.cells (JJ w.heap.size) 24)):=xC _ _;refine⟨⟨_,_,_,rfl,((h1.below b2).below b3).below b4,(h2.below b3).below b4,h3.below b4,⟨by decide,by decide,by decide,by decide⟩⟩,Row.new _ _ _,?_⟩;exact((b1.trans (b2.mono (by omega))).trans (b3.mono (by omega))).trans (b4.mono (by omega))
theorem LP (w:World) (l:List UInt8) (fz:Nat×Nat) (hl:l.length≤1000):eR (w.alloc (.cells (l.map iP).toArray 5 fz)) (.slice (some ⟨w.heap.size,0,none⟩) l.length l.length) l:=by refine .inr ⟨w.heap.size,0,l.length,rfl,Nat.le_refl _,by unfold maxLen;omega,fun j hj=>?_⟩;rw[World.cell?_alloc_mark w _ 5 fz (0+j)];simp[hj,iP]
theorem TU (w:World) (hW:Laid w):Calls Tryz.prog 4 #[] w fun e w'=>e= .returned (.bool true)∧Below w.heap.size w w':=by
 have HW:=hid hW;have ZO:=hid (fun W hW=>BE QK (by decide) W hW);have HB:Hid (Below w.heap.size w w):=hid (Below.refl _ _);clear hW;go_enter Tryz.func4,Tryz.ntmps4;go_wp2_with fail;refine(ZO.out _ HW.out).mono ?_;rintro e w5 ⟨aM,ar,rfl,yN⟩;rw[Xz];have lX:=hid yN;have pA:=yN.dH;replace HB:=hid aM;clear yN aM ZO;go_upto_region 5 with(first|(refine eX rfl (aO _) ?_;intro gU w2 bR hN;have Ei:w5.heap.size≤gU:=(by have:=hN.out.1;omega);have iJ:=hid hN.out.2.1;clear hN)|(refine vS rfl bR pA jQ rfl rfl ?_;intro w6 aH aB;replace iJ:=bU iJ aB.1 Ei;replace bR:=aH;clear aB aH))
 have HPM:=hid (abA w6 _ rfl);unfold JJ at HPM;generalize hw8:(((w6.alloc (.cells #[.string ⟨#[104,116,116,112,115]⟩,.string ⟨#[100,97,116,97]⟩] 9)).alloc (.cells #[.string ⟨#[104]⟩,.string ⟨#[46,99,46,100]⟩] 9)).alloc (.cells #[.string ⟨#[105,109,97,103,101,47,112,110,103]⟩] 9)).alloc _=w8 at*;generalize #[Value.slice (some ⟨w6.heap.size,0,none⟩) 2 2,Value.slice (some ⟨w6.heap.size+1,0,none⟩) 2 2,Value.slice (some ⟨w6.heap.size+1+1,0,none⟩) 1 1,Value.int IntKind.i64 200]=kY at*;generalize w6.heap.size+1+1+1=gP at*;obtain⟨hP8,aK,rB⟩:=HPM.out;have amN:=hP8.dH;have HP8:=hid hP8;have jB:=hid (fun W (hp:pZ W kY Xy) (hu:cT (fun b=>b < w.heap.size) W ar QL) {v:Value} (hv:eR W v aeV) hW=>filter_filter (w:=W) (v:=v) [105,109,103] [115,114,99,115,101,116] hp hu (C3 rfl) (Nat.le_trans (NA (s:=QK) rfl) (by decide)) hv (by decide) (by decide) (by decide) hW);have pJ:=hid (fun W (hp:pZ W kY Xy) (hu:cT (fun b=>b < w.heap.size) W ar QL) {v:Value} (hv:eR W v aeW) hW=>filter_filter (w:=W) (v:=v) [97] [104,114,101,102] hp hu (C3 rfl) (Nat.le_trans (NA (s:=QK) rfl) (by decide)) hv (by decide) (by decide) (by decide) hW);rw[aaY,aeY] at jB;rw[aaZ,aeX] at pJ;simp only at jB pJ;have Q0:Hid (∀W,Below w8.heap.size w8 W→pZ W kY Xy∧cT (fun b=>b < w.heap.size) W ar QL∧Laid W):=hid (fun W hb=>⟨HP8.out.below hb,lX.out.below ((iJ.out.trans (rB.mono iJ.out.size)).trans (hb.mono (Nat.le_trans iJ.out.size rB.size))),HW.out.below (HB.out.trans (((iJ.out.trans (rB.mono iJ.out.size)).trans (hb.mono (Nat.le_trans iJ.out.size rB.size))).mono HB.out.size)) HW.out.size⟩);have dR:Hid (∀W,Below w8.heap.size w8 W→Below w.heap.size w W):=hid (fun W hb=>HB.out.trans (((iJ.out.trans (rB.mono iJ.out.size)).trans (hb.mono (Nat.le_trans iJ.out.size rB.size))).mono HB.out.size));replace bR:=bR.below rB;have G3:∀(W:World) (C:Array Value) (n c:Nat),(convert 25 25 (.slice (some ⟨W.heap.size,0,none⟩) n c)).run Tryz.prog (W.alloc (.cells C 5))= .ok (.slice (some ⟨W.heap.size,0,none⟩) n c) (W.alloc (.cells C 5 (C.size,C.size+1))):=fun W C n c=>Lib.run_convert_bytes_const W 25 5 C n c Tryz.underlying25 Tryz.underlying5;have Ks:=LP w8 aeV (51,52) (by decide);have XQ:=xC w8 (.cells (aeV.map iP).toArray 5 (51,52));clear HPM hP8 rB HP8 lX iJ HB HW hw8;go_wp2_with (first|(refine fF rfl aK R24 amN.1 rfl ?_)|(refine fF rfl bR jQ pA.1 rfl ?_));refine(jB.out _ (Q0.out _ XQ).1 (Q0.out _ XQ).2.1 Ks (Q0.out _ XQ).2.2).mono ?_;rintro e w9 ⟨rfl,sK⟩;have wN:=hid (XQ.trans (sK.mono XQ.size));replace bR:=(bR.below XQ).below sK;replace aK:=(aK.below XQ).below sK;clear Ks XQ sK jB;go_upto_region 6 with(first|(refine eX rfl (B6 _) ?_;intro gV w10 dA hN;have TA:=jV wN hN;have nUV:=fU bR hN;have nPV:=fU aK hN;replace bR:=bR.below hN.out.2.1;replace aK:=aK.below hN.out.2.1;replace wN:=aR wN hN.out.2.1;clear hN)|(refine lV rfl dA rfl (by kernel_rfl) ?_;intro w11 aH aB;replace bR:=bR.other aB (Nat.ne_of_lt nUV);replace aK:=aK.other aB (Nat.ne_of_lt nPV);replace wN:=bU wN aB.1 TA;replace dA:=aH;clear aB aH))
 have Ks:=LP w11 aeW (17,18) (by decide);have XQ:=xC w11 (.cells (aeW.map iP).toArray 5 (17,18));have hbb:=wN.out.trans (XQ.mono wN.out.size);go_wp2_with (first|(refine fF rfl aK R24 amN.1 rfl ?_)|(refine fF rfl bR jQ pA.1 rfl ?_));refine(pJ.out _ (Q0.out _ hbb).1 (Q0.out _ hbb).2.1 Ks (Q0.out _ hbb).2.2).mono ?_;rintro e w12 ⟨rfl,sK⟩;have Xi:=hid (hbb.trans (sK.mono hbb.size));replace dA:=(dA.below XQ).below sK;clear Ks XQ sK pJ wN hbb bR aK;go_wp2_with (first|(refine eX rfl (B6 _) ?_;intro gX w13 ajH hN;have lgX:=jV Xi hN;have nVX:=fU dA hN;replace dA:=dA.below hN.out.2.1;replace Xi:=aR Xi hN.out.2.1;clear hN)|(refine lV rfl ajH rfl (by kernel_rfl) ?_;intro w14 aH aB;replace dA:=dA.other aB (Nat.ne_of_lt nVX);replace Xi:=bU Xi aB.1 lgX;replace ajH:=aH;clear aB aH)|(refine fF rfl dA R38 rfl rfl ?_)|(refine jR rfl 38 _ rfl _ 3 rfl ajH _ Tryz.underlying38 rfl rfl (by kernel_rfl) ?_)|(refine oI rfl .eql 38 38 _ _ rfl (.bool true) (by kernel_rfl) (by kernel_rfl) ?_));go_ret;exact⟨rfl,dR.out _ Xi.out⟩
theorem XA (p:eH) {b:bD} (hb:b.scheme=aN→b.opaq=false) {kind:Nat} (hk:kind≠0) (raw:List UInt8):
 ((kZ p b kind raw).1=3∨(kZ p b kind raw).1=2)∧(kZ p b kind raw).2.2.length≤15*raw.length+(eP (R0 p) kind b (eD raw)).1.length*(5*(aQ J0 b true).length+64)∧((kZ p b kind raw).2.2.length:Int)≤max p.AT 0:=by
 have h1:=Xw p kind hb raw;unfold kZ ajG;rw[if_neg hk];generalize gY _=O at*;by_cases e1:p.AT < (raw.length:Int);·rw[if_pos e1];exact⟨.inr rfl,Nat.zero_le _,by simp;omega⟩
 rw[if_neg e1];by_cases e2:CY b=false;·rw[if_pos e2];exact⟨.inr rfl,Nat.zero_le _,by simp;omega⟩
 rw[if_neg e2];split;·exact⟨.inr rfl,Nat.zero_le _,by simp;omega⟩
 split;·exact⟨.inr rfl,Nat.zero_le _,by simp;omega⟩
 split;·exact⟨.inr rfl,Nat.zero_le _,by simp;omega⟩
 ·rename_i e5;exact⟨.inl rfl,h1,by simp only;omega⟩
theorem abB (p:eH) (b:bD) (raw:List UInt8):kZ p b 0 raw=(1,0,[]):=rfl
theorem XB {kY:Array Value} {p:eH} {w:World} {v:Value} {raw:List UInt8} (t el nm:List UInt8) (hp:pZ w kY p) (hv:eR w v raw) (ht:t.length≤4000000) (hel:el.length≤4000000) (hnm:nm.length≤4000000) (aoY:raw.length≤4000000) (hW:Laid w):
 Calls Tryz.prog 3 #[.agg kY,.string (aA t),.string (aA el),.string (aA nm),v] w fun e w'=>e= .returned (.bool true)∧Below w.heap.size w w':=by
 have HW:=hid hW;have HP:=hid hp;have HV:=hid hv;have NH:=hid hp.dH;obtain⟨_,_,_,_,_,_,_,_,_,_,_,_,Xf⟩:=hp.cells;have ER:=hid (fun W hW=>TU W hW);have HFE:=hid (fun W (h:pZ W kY p)=>Xx h (w:=W));have Xi:=hid (fun W hW=>TT t (by omega) W hW);have HZE:=hid (aD el);have HZN:=hid (aD nm);obtain⟨A0,c0,Ef,_,_⟩:=hv.len;subst Ef;have HB:Hid (Below w.heap.size w w):=hid (Below.refl _ _);have HBF:=hid (C3 (s:=t) rfl);have dB:=NA (s:=t) rfl;obtain⟨ok,qK⟩:∃ok,ok=((iL J0 (partsOf t)).isSome&&decide (t.length≤300)):=⟨_,rfl⟩;have F9:Hid (ok=true→dL (aQ J0 ((iL J0 (partsOf t)).getD {}) true)≤2000):=hid (fun h=>by rw[qK,Bool.and_eq_true,decide_eq_true_eq] at h;omega);rw[←qK] at Xi;clear hp hv hW dB qK ht;generalize (iL J0 (partsOf t)).getD {}=b at*;go_enter Tryz.func3,Tryz.ntmps3;go_wp2_with (refine jH (arr:=kY) rfl rfl ?_;intro gP w2 aK hN;have UN:=jV HB hN;replace HB:=aR HB hN.out.2.1;clear hN);refine(ER.out _ (HW.out.below HB.out HW.out.size)).mono ?_;rintro e w2 ⟨rfl,aM⟩;replace aK:=aK.below aM;replace HB:=aR HB aM;clear aM ER;go_wp2_with (refine fF rfl aK R24 NH.out.1 rfl ?_);refine(HFE.out _ (HP.out.below HB.out)).mono ?_;rintro e w3 ⟨⟨bl,rfl⟩,aM⟩;replace aK:=aK.below aM;replace HB:=aR HB aM;clear aM HFE;go_wp2_with fail;refine(Xi.out _ (HW.out.below HB.out HW.out.size)).mono ?_;rintro e w4 ⟨aM,ar,rfl,hu4⟩;have HU:=hid (hu4.lE (N':=fun _=>False) (fun _ h=>h.elim));have pA:=hu4.dH;have fG:Hid (Below w4.heap.size w4 w4):=hid (Below.refl _ _);replace aK:=aK.below aM;replace HB:=aR HB aM;clear aM Xi hu4;cases bl with
 |false=>go_wp2_with (first|(refine eX rfl (aO _) ?_;intro gU w2 bR hN;have bN:=fU aK hN;have Ei:=jV HB hN;replace aK:=aK.below hN.out.2.1;replace HB:=aR HB hN.out.2.1;have k4:w4.heap.size≤gU:=(by have:=fG.out.size;have:=hN.out.1;omega);replace fG:=aR fG hN.out.2.1;clear hN)|(refine vS rfl bR pA jQ rfl rfl ?_;intro w1 aH aB;replace aK:=aK.other aB (Nat.ne_of_lt bN);replace fG:=bU fG aB.1 k4;replace HB:=bU HB aB.1 Ei;replace bR:=aH;clear aB aH));go_ret;exact⟨rfl,HB.out⟩
 |true=>
 cases ok with
 |false=>go_wp2_with (first|(refine eX rfl (aO _) ?_;intro gU w2 bR hN;have bN:=fU aK hN;have Ei:=jV HB hN;replace aK:=aK.below hN.out.2.1;replace HB:=aR HB hN.out.2.1;have k4:w4.heap.size≤gU:=(by have:=fG.out.size;have:=hN.out.1;omega);replace fG:=aR fG hN.out.2.1;clear hN)|(refine vS rfl bR pA jQ rfl rfl ?_;intro w1 aH aB;replace aK:=aK.other aB (Nat.ne_of_lt bN);replace fG:=bU fG aB.1 k4;replace HB:=bU HB aB.1 Ei;replace bR:=aH;clear aB aH));go_ret;exact⟨rfl,HB.out⟩
 |true=>
 by_cases aoZ:(300:Int) < (raw.length:Int)
 ·
  go_wp2_with (first|(refine eX rfl (aO _) ?_;intro gU w2 bR hN;have bN:=fU aK hN;have Ei:=jV HB hN;replace aK:=aK.below hN.out.2.1;replace HB:=aR HB hN.out.2.1;have k4:w4.heap.size≤gU:=(by have:=fG.out.size;have:=hN.out.1;omega);replace fG:=aR fG hN.out.2.1;clear hN)|(refine vS rfl bR pA jQ rfl rfl ?_;intro w1 aH aB;replace aK:=aK.other aB (Nat.ne_of_lt bN);replace fG:=bU fG aB.1 k4;replace HB:=bU HB aB.1 Ei;replace bR:=aH;clear aB aH));go_ret;exact⟨rfl,HB.out⟩
 by_cases apA:(50:Int) < ((aA el).size:Int)
 ·
  go_wp2_with (first|(refine eX rfl (aO _) ?_;intro gU w2 bR hN;have bN:=fU aK hN;have Ei:=jV HB hN;replace aK:=aK.below hN.out.2.1;replace HB:=aR HB hN.out.2.1;have k4:w4.heap.size≤gU:=(by have:=fG.out.size;have:=hN.out.1;omega);replace fG:=aR fG hN.out.2.1;clear hN)|(refine vS rfl bR pA jQ rfl rfl ?_;intro w1 aH aB;replace aK:=aK.other aB (Nat.ne_of_lt bN);replace fG:=bU fG aB.1 k4;replace HB:=bU HB aB.1 Ei;replace bR:=aH;clear aB aH));go_ret;exact⟨rfl,HB.out⟩
 by_cases apB:(50:Int) < ((aA nm).size:Int)
 ·
  go_wp2_with (first|(refine eX rfl (aO _) ?_;intro gU w2 bR hN;have bN:=fU aK hN;have Ei:=jV HB hN;replace aK:=aK.below hN.out.2.1;replace HB:=aR HB hN.out.2.1;have k4:w4.heap.size≤gU:=(by have:=fG.out.size;have:=hN.out.1;omega);replace fG:=aR fG hN.out.2.1;clear hN)|(refine vS rfl bR pA jQ rfl rfl ?_;intro w1 aH aB;replace aK:=aK.other aB (Nat.ne_of_lt bN);replace fG:=bU fG aB.1 k4;replace HB:=bU HB aB.1 Ei;replace bR:=aH;clear aB aH));go_ret;exact⟨rfl,HB.out⟩
 have hwt:=F9.out rfl;have W3:el.length≤50:=by have:=HZE.out;omega
 have apC:nm.length≤50:=by have:=HZN.out;omega
 have Fj:raw.length≤300:=by omega
 have XJ:=(D7 el nm).2;have HKI:=hid (fun W=>Ij (aA el) (aA nm) W (by rw[aD];omega) (by rw[aD];omega));rw[aC,aC,(D7 el nm).1] at HKI;have Qk:=hid (fun W (hp:pZ W kY p) (hu:cT (fun _=>False) W ar b) (hv:eR W (.slice A0 raw.length c0) raw) hW=>filter_filter (w:=W) el nm hp hu HBF.out hwt hv Fj (by omega) (by omega) hW);have HV0:=hid (abB p b raw);have HVF:=hid (fun(h:BK el nm≠0)=>XA p HBF.out h raw);generalize BK el nm=kind at*;have lA:b.path.length≤2000:=by obtain⟨pv,_,_,hu⟩:=HU.out;exact Nat.le_trans (Ni hu) hwt
 have Lr:=hid (fun W (h:cT (fun _=>False) W ar b) (hv:eR W (.slice A0 raw.length c0) raw) hW=>JI p kind XJ h (by omega) hv (by omega) (w:=W) hW);have Mu:=Gk p kind b (eD raw);have Ut:=JH raw;have YC:=AM (aQ J0 b true);have DP:=hid (fun W (h:cT (fun _=>False) W ar b) hW=>Ad h true (by omega) (w:=W) hW);have yV:Hid ((aQ J0 b true).length≤2000):=hid (by omega);generalize eP (R0 p) kind b (eD raw)=R at*;have hRn:R.1.length≤1000:=by omega
 obtain⟨V,hV⟩:∃V,V=kZ p b kind raw:=⟨_,rfl⟩;rw[←hV] at Qk HVF;have HV1:Hid (kind=0→V=(1,0,[])):=hid (fun h=>by subst h;rw[hV];exact HV0.out);obtain⟨k1,y1,o1⟩:=V;simp only at Qk HVF;generalize aQ J0 b true=wb at*;clear hV HV0 lA Ut YC Mu hwt F9 HBF W3 apC hel hnm aoY HZE HZN;go_wp2_with (first|(refine eX rfl (aO _) ?_;intro gU w2 bR hN;have bN:=fU aK hN;have Ei:=jV HB hN;replace aK:=aK.below hN.out.2.1;replace HB:=aR HB hN.out.2.1;have k4:w4.heap.size≤gU:=(by have:=fG.out.size;have:=hN.out.1;omega);replace fG:=aR fG hN.out.2.1;clear hN)|(refine vS rfl bR pA jQ rfl rfl ?_;intro w1 aH aB;replace aK:=aK.other aB (Nat.ne_of_lt bN);replace fG:=bU fG aB.1 k4;replace HB:=bU HB aB.1 Ei;replace bR:=aH;clear aB aH)|(refine fF rfl aK R24 NH.out.1 rfl ?_)|(refine fF rfl bR jQ pA.1 rfl ?_));refine(Qk.out _ (HP.out.below HB.out) (HU.out.below fG.out) (HV.out.below HB.out) (HW.out.below HB.out HW.out.size)).mono ?_;rintro e w5 ⟨rfl,aM⟩;replace aK:=aK.below aM;replace bR:=bR.below aM;replace HB:=aR HB aM;replace fG:=aR fG aM;clear aM Qk apA apB aoZ;go_wp2_with (first|(refine eX rfl (B6 _) ?_;intro gV w2 dA hN;have D8:=fU aK hN;have D9:=fU bR hN;have TA:=jV HB hN;replace aK:=aK.below hN.out.2.1;replace bR:=bR.below hN.out.2.1;replace HB:=aR HB hN.out.2.1;have kv:w4.heap.size≤gV:=(by have:=fG.out.size;have:=hN.out.1;omega);replace fG:=aR fG hN.out.2.1;clear hN)|(refine lV rfl dA rfl (by kernel_rfl) ?_;intro w1 aH aB;replace aK:=aK.other aB (Nat.ne_of_lt D8);replace bR:=bR.other aB (Nat.ne_of_lt D9);replace fG:=bU fG aB.1 kv;replace HB:=bU HB aB.1 TA;replace dA:=aH;clear aB aH));refine(HKI.out _).mono ?_;rintro e w6 ⟨rfl,aM⟩;replace aK:=aK.below aM;replace bR:=bR.below aM;replace dA:=dA.below aM;replace HB:=aR HB aM;replace fG:=aR fG aM;clear aM HKI;go_wp2_with (refine fF rfl bR jQ pA.1 rfl ?_);refine(Lr.out _ (HU.out.below fG.out) (HV.out.below HB.out) (HW.out.below HB.out HW.out.size)).mono ?_;rintro e w7 ⟨aM,v7,rfl,ho7⟩;obtain⟨a7,c7,hv7,_⟩:=(ho7.read (aY.aw _)).len;subst hv7;replace aK:=aK.below aM;replace bR:=bR.below aM;replace dA:=dA.below aM;replace HB:=aR HB aM;replace fG:=aR fG aM;clear aM Lr ho7;generalize R.1.length=n at*;have hfl:∀(a:Option Addr) (n c:Nat) (s:ByteArray) (W:World),(Instr.field 43 (.agg #[.slice a n c,.string s]) 0).run Tryz.prog W= .ok (.slice a n c) W:=fun a n c s W=>by kernel_rfl
 by_cases zP:kind=0
 ·have Dy:=HV1.out zP;have hkz:((kind:Int)==0)=true:=by rw[zP];rfl
  injection Dy with e1 e2;injection e2 with e2 e3;subst e1 e2 e3;clear zP HV1 HVF;go_wp2_with (first|(refine jR rfl 38 _ rfl _ 3 rfl dA _ Tryz.underlying38 rfl rfl (by kernel_rfl) ?_)|(refine oI rfl .eql 38 38 _ _ rfl (.bool true) (by kernel_rfl) (by kernel_rfl) ?_));go_ret;exact⟨rfl,HB.out⟩
 ·have hkz:((kind:Int)==0)=false:=by simp;omega
  obtain⟨hkk,ho1,Us⟩:=HVF.out zP;clear HV1 HVF zP;go_upto_region 11 with fail
  have qL:(aA wb).size≤2000:=by rw[aD];exact yV.out
  have hoz:(aA o1).size=o1.length:=aD o1;obtain⟨M,hM⟩:∃M,M=n*(5*(aA wb).size+64):=⟨_,rfl⟩;have hM1:M≤1000*10064:=by rw[hM];exact Nat.mul_le_mul hRn (by omega)
  have hMw:IntKind.i64.wrap ((n:Int)*(5*((aA wb).size:Int)+64))=(M:Int):=by
   have e:(n:Int)*(5*((aA wb).size:Int)+64)=(M:Int):=by rw[hM];push_cast;rfl
   rw[e];exact wrap_small (by omega) (by omega)
  have Ib:IntKind.i64.wrap (5*((aA wb).size:Int))=5*((aA wb).size:Int):=wrap_small (by omega) (by omega);have JS:IntKind.i64.wrap (5*((aA wb).size:Int)+64)=5*((aA wb).size:Int)+64:=wrap_small (by omega) (by omega);have hw3:IntKind.i64.wrap (15*(raw.length:Int))=15*(raw.length:Int):=wrap_small (by omega) (by omega);have hw4:IntKind.i64.wrap (15*(raw.length:Int)+(M:Int))=15*(raw.length:Int)+(M:Int):=wrap_small (by omega) (by omega);have hle:((aA o1).size:Int)≤15*(raw.length:Int)+(M:Int):=by rw[aD] at hM;rw[hoz];omega
  have XO:((aA o1).size:Int)≤max p.AT 0:=by rw[hoz];exact Us
  have JV:Hid (∀W,fX w7.drew W→Laid W∧cT (fun _=>False) W ar b):=hid (fun W hW=>⟨((HW.out.below HB.out HW.out.size).step (bB _)).step hW,(HU.out.below ((fG.out.trans ((bB w7).mono fG.out.size)).trans (hW.mono fG.out.size)))⟩);clear hM ho1 Us hoz hfl hkz;rcases hkk with rfl|rfl
  ·apply Ez fX [Spec.val _,Spec.val _,Spec.val _,Spec.val _,Spec.val _,Spec.val _,Spec.val _,Spec.val _,Spec.val _,Spec.val _,Spec.val _,Spec.val _,Spec.val _,Spec.val _,Spec.val _,Spec.val _,Spec.val _,Spec.val _,Spec.val _,Spec.val _,Spec.val _,Spec.val _,Spec.val _,Spec.val _,Spec.val _,Spec.val _,Spec.val _,Spec.val _,Spec.val _,Spec.val _,Spec.val _,Spec.val _,Spec.val _,Spec.val _,Spec.val _,Spec.val _,Spec.val _,Spec.val _] (by kernel_rfl) (by kernel_rfl) mM;simp only[];apply aS.val; ·rfl
   ·intro W hW hF K hK;go_simp;exact hK _ (Below.refl _ _)
   simp only[pq];apply aS.val; ·rfl
   ·intro W hW hF K hK;go_simp;exact hK _ (Below.refl _ _)
   simp only[pq];apply aS.val; ·rfl
   ·intro W hW hF K hK;go_simp;exact hK _ (Below.refl _ _)
   simp only[pq];apply aS.val; ·rfl
   ·intro W hW hF K hK;have cc:=(fX.row dA hW).cell (i:=0) (v:= .int .i64 3) rfl;go_simp;exact hK _ (Below.refl _ _)
   simp only[pq];apply aS.val; ·rfl
   ·intro W hW hF K hK;go_simp;exact hK _ (Below.refl _ _)
   simp only[pq];apply aS.val; ·rfl
   ·intro W hW hF K hK;go_simp;exact hK _ (Below.refl _ _)
   simp only[pq];apply aS.skip; ·rfl
   simp only[pq];apply aS.skip; ·rfl
   simp only[pq];apply aS.skip; ·rfl
   simp only[pq];apply aS.val; ·rfl
   ·intro W hW hF K hK;go_simp;exact hK _ (Below.refl _ _)
   simp only[pq];apply aS.val; ·rfl
   ·intro W hW hF K hK;go_simp;exact hK _ (Below.refl _ _)
   simp only[pq];apply aS.val; ·rfl
   ·intro W hW hF K hK;go_simp;exact hK _ (Below.refl _ _)
   simp only[pq];apply aS.val; ·rfl
   ·intro W hW hF K hK;go_simp;exact hK _ (Below.refl _ _)
   simp only[pq];apply aS.val; ·rfl
   ·intro W hW hF K hK;have cc:=(fX.row dA hW).cell (i:=2) (v:= .string (aA o1)) rfl;go_simp;exact hK _ (Below.refl _ _)
   simp only[pq];apply aS.val; ·rfl
   ·intro W hW hF K hK;go_simp;exact hK _ (Below.refl _ _)
   simp only[pq];apply aS.val; ·rfl
   ·intro W hW hF K hK;go_simp;exact hK _ (Below.refl _ _)
   simp only[pq];apply aS.val; ·rfl
   ·intro W hW hF K hK;go_simp;exact hK _ (Below.refl _ _)
   simp only[pq];apply aS.val; ·rfl
   ·intro W hW hF K hK;go_simp;exact hK _ (Below.refl _ _)
   simp only[pq];apply aS.val; ·rfl
   ·intro W hW hF K hK;go_simp;exact hK _ (Below.refl _ _)
   simp only[pq];apply aS.val; ·rfl
   ·intro W hW hF K hK;exact D0 34 _ rfl gU 23 rfl (fX.row bR hW) _ Tryz.underlying34 rfl pA.1 (by kernel_rfl) (hK _ (Below.refl _ _))
   simp only[pq];apply aS.val; ·rfl
   ·intro W hW hF K hK;go_simp;go_at_call 10;refine(DP.out _ (JV.out _ hW).2 (JV.out _ hW).1).mono ?_;rintro e w8 ⟨rfl,rB⟩;exact hK _ rB
   simp only[pq];apply aS.val; ·rfl
   ·intro W hW hF K hK;go_simp;exact hK _ (Below.refl _ _)
   simp only[pq];apply aS.val; ·rfl
   ·intro W hW hF K hK;go_simp;exact hK _ (Below.refl _ _)
   simp only[pq];apply aS.val; ·rfl
   ·intro W hW hF K hK;go_simp;exact hK _ (Below.refl _ _)
   simp only[pq];apply aS.val; ·rfl
   ·intro W hW hF K hK;go_simp;exact hK _ (Below.refl _ _)
   simp only[pq];apply aS.val; ·rfl
   ·intro W hW hF K hK;go_simp;exact hK _ (Below.refl _ _)
   simp only[pq];apply aS.val; ·rfl
   ·intro W hW hF K hK;go_simp;exact hK _ (Below.refl _ _)
   simp only[pq];apply aS.val; ·rfl
   ·intro W hW hF K hK;go_simp;exact hK _ (Below.refl _ _)
   simp only[pq];apply aS.val; ·rfl
   ·intro W hW hF K hK;go_simp;exact hK _ (Below.refl _ _)
   simp only[pq];apply aS.val; ·rfl
   ·intro W hW hF K hK;go_simp;exact hK _ (Below.refl _ _)
   simp only[pq];apply aS.val; ·rfl
   ·intro W hW hF K hK;have cc:=(fX.row dA hW).cell (i:=2) (v:= .string (aA o1)) rfl;go_simp;exact hK _ (Below.refl _ _)
   simp only[pq];apply aS.val; ·rfl
   ·intro W hW hF K hK;go_simp;exact hK _ (Below.refl _ _)
   simp only[pq];apply aS.val; ·rfl
   ·intro W hW hF K hK;go_simp;exact hK _ (Below.refl _ _)
   simp only[pq];apply aS.val; ·rfl
   ·intro W hW hF K hK;have cc:=(fX.row aK hW).cell (i:=3) Xf;go_simp;exact hK _ (Below.refl _ _)
   simp only[pq];apply aS.val; ·rfl
   ·intro W hW hF K hK;go_simp;exact hK _ (Below.refl _ _)
   simp only[pq];apply aS.val; ·rfl
   ·intro W hW hF K hK;go_simp;exact hK _ (Below.refl _ _)
   simp only[pq];apply aS.val; ·rfl
   ·intro W hW hF K hK;go_simp;exact hK _ (Below.refl _ _)
   simp only[pq];apply aS.val; ·rfl
   ·intro W hW hF K hK;go_simp;exact hK _ (Below.refl _ _)
   simp only[pq];refine aS.nil ?_;intro w9 sK _;have wN:=hid (HB.out.trans (((bB w7).trans (sK.mono (Nat.le_refl _))).mono HB.out.size));clear sK;go_wp2_with fail;go_ret;exact⟨rfl,wN.out⟩
  ·apply Ez fX [Spec.val _,Spec.val _,Spec.val _,Spec.val _,Spec.val _,Spec.val _,Spec.val _,Spec.val _,Spec.val _,Spec.val _,Spec.val _,Spec.val _,Spec.val _,Spec.val _,Spec.val _,Spec.val _,Spec.val _,Spec.val _,Spec.val _,Spec.val _,Spec.val _,Spec.val _,Spec.val _,Spec.val _,Spec.val _,Spec.val _,Spec.val _,Spec.val _,Spec.val _,Spec.val _,Spec.val _,Spec.val _,Spec.val _,Spec.val _,Spec.val _,Spec.val _,Spec.val _,Spec.val _] (by kernel_rfl) (by kernel_rfl) mM;simp only[];apply aS.val; ·rfl
   ·intro W hW hF K hK;go_simp;exact hK _ (Below.refl _ _)
   simp only[pq];apply aS.val; ·rfl
   ·intro W hW hF K hK;go_simp;exact hK _ (Below.refl _ _)
   simp only[pq];apply aS.val; ·rfl
   ·intro W hW hF K hK;go_simp;exact hK _ (Below.refl _ _)
   simp only[pq];apply aS.val; ·rfl
   ·intro W hW hF K hK;have cc:=(fX.row dA hW).cell (i:=0) (v:= .int .i64 2) rfl;go_simp;exact hK _ (Below.refl _ _)
   simp only[pq];apply aS.val; ·rfl
   ·intro W hW hF K hK;go_simp;exact hK _ (Below.refl _ _)
   simp only[pq];apply aS.val; ·rfl
   ·intro W hW hF K hK;go_simp;exact hK _ (Below.refl _ _)
   simp only[pq];apply aS.val; ·rfl
   ·intro W hW hF K hK;go_simp;exact hK _ (Below.refl _ _)
   simp only[pq];apply aS.val; ·rfl
   ·intro W hW hF K hK;have cc:=(fX.row dA hW).cell (i:=0) (v:= .int .i64 2) rfl;go_simp;exact hK _ (Below.refl _ _)
   simp only[pq];apply aS.val; ·rfl
   ·intro W hW hF K hK;go_simp;exact hK _ (Below.refl _ _)
   simp only[pq];apply aS.val; ·rfl
   ·intro W hW hF K hK;go_simp;exact hK _ (Below.refl _ _)
   simp only[pq];apply aS.val; ·rfl
   ·intro W hW hF K hK;go_simp;exact hK _ (Below.refl _ _)
   simp only[pq];apply aS.val; ·rfl
   ·intro W hW hF K hK;go_simp;exact hK _ (Below.refl _ _)
   simp only[pq];apply aS.val; ·rfl
   ·intro W hW hF K hK;go_simp;exact hK _ (Below.refl _ _)
   simp only[pq];apply aS.val; ·rfl
   ·intro W hW hF K hK;have cc:=(fX.row dA hW).cell (i:=2) (v:= .string (aA o1)) rfl;go_simp;exact hK _ (Below.refl _ _)
   simp only[pq];apply aS.val; ·rfl
   ·intro W hW hF K hK;go_simp;exact hK _ (Below.refl _ _)
   simp only[pq];apply aS.val; ·rfl
   ·intro W hW hF K hK;go_simp;exact hK _ (Below.refl _ _)
   simp only[pq];apply aS.val; ·rfl
   ·intro W hW hF K hK;go_simp;exact hK _ (Below.refl _ _)
   simp only[pq];apply aS.val; ·rfl
   ·intro W hW hF K hK;go_simp;exact hK _ (Below.refl _ _)
   simp only[pq];apply aS.val; ·rfl
   ·intro W hW hF K hK;go_simp;exact hK _ (Below.refl _ _)
   simp only[pq];apply aS.val; ·rfl
   ·intro W hW hF K hK;exact D0 34 _ rfl gU 23 rfl (fX.row bR hW) _ Tryz.underlying34 rfl pA.1 (by kernel_rfl) (hK _ (Below.refl _ _))
   simp only[pq];apply aS.val; ·rfl
   ·intro W hW hF K hK;go_simp;go_at_call 10;refine(DP.out _ (JV.out _ hW).2 (JV.out _ hW).1).mono ?_;rintro e w8 ⟨rfl,rB⟩;exact hK _ rB
   simp only[pq];apply aS.val; ·rfl
   ·intro W hW hF K hK;go_simp;exact hK _ (Below.refl _ _)
   simp only[pq];apply aS.val; ·rfl
   ·intro W hW hF K hK;go_simp;exact hK _ (Below.refl _ _)
   simp only[pq];apply aS.val; ·rfl
   ·intro W hW hF K hK;go_simp;exact hK _ (Below.refl _ _)
   simp only[pq];apply aS.val; ·rfl
   ·intro W hW hF K hK;go_simp;exact hK _ (Below.refl _ _)
   simp only[pq];apply aS.val; ·rfl
   ·intro W hW hF K hK;go_simp;exact hK _ (Below.refl _ _)
   simp only[pq];apply aS.val; ·rfl
   ·intro W hW hF K hK;go_simp;exact hK _ (Below.refl _ _)
   simp only[pq];apply aS.val; ·rfl
   ·intro W hW hF K hK;go_simp;exact hK _ (Below.refl _ _)
   simp only[pq];apply aS.val; ·rfl
   ·intro W hW hF K hK;go_simp;exact hK _ (Below.refl _ _)
   simp only[pq];apply aS.val; ·rfl
   ·intro W hW hF K hK;go_simp;exact hK _ (Below.refl _ _)
   simp only[pq];apply aS.val; ·rfl
   ·intro W hW hF K hK;have cc:=(fX.row dA hW).cell (i:=2) (v:= .string (aA o1)) rfl;go_simp;exact hK _ (Below.refl _ _)
   simp only[pq];apply aS.val; ·rfl
   ·intro W hW hF K hK;go_simp;exact hK _ (Below.refl _ _)
   simp only[pq];apply aS.val; ·rfl
   ·intro W hW hF K hK;go_simp;exact hK _ (Below.refl _ _)
   simp only[pq];apply aS.val; ·rfl
   ·intro W hW hF K hK;have cc:=(fX.row aK hW).cell (i:=3) Xf;go_simp;exact hK _ (Below.refl _ _)
   simp only[pq];apply aS.val; ·rfl
   ·intro W hW hF K hK;go_simp;exact hK _ (Below.refl _ _)
   simp only[pq];apply aS.val; ·rfl
   ·intro W hW hF K hK;go_simp;exact hK _ (Below.refl _ _)
   simp only[pq];apply aS.val; ·rfl
   ·intro W hW hF K hK;go_simp;exact hK _ (Below.refl _ _)
   simp only[pq];apply aS.val; ·rfl
   ·intro W hW hF K hK;go_simp;exact hK _ (Below.refl _ _)
   simp only[pq];refine aS.nil ?_;intro w9 sK _;have wN:=hid (HB.out.trans (((bB w7).trans (sK.mono (Nat.le_refl _))).mono HB.out.size));clear sK;go_wp2_with fail;go_ret;exact⟨rfl,wN.out⟩
end Go.Proofs.YtmgmclkplepapaaGreatDoor
