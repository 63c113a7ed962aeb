/- Part of the proof of TopBoundsUptoCardSaid. Conditions: none beyond the statement. -/
import Derived.Test.YtmgmclkplepapaaGreatDoorPt41
set_option linter.all false
set_option maxRecDepth 100000
set_option maxHeartbeats 64000000
namespace Go.Proofs.YtmgmclkplepapaaGreatDoor
open Go.RowKit
theorem Tt (gA gB:Nat) (ZB:Array Value) (b:Value) (w:World) (hA:Row w gA 34 ZB) (h8:ZB.size=23) (hB:Row w gB 4 #[b]) (eG:gA≠gB) (Pz:List PanicEntry):
 CallsD Tryz.prog 57 #[.pointer (some ⟨gA,0,none⟩),.pointer (some ⟨gB,0,none⟩)] (.panicking ({v:= .iface 170 (.agg #[]),recovered:=false}::Pz)) w fun e u' w'=>
  e= .returned (.tuple #[])∧u'= .panicking ({v:= .iface 170 (.agg #[]),recovered:=true}::Pz)∧Row w' gA 34 uH∧Row w' gB 4 #[.bool false]∧Below (min gA gB) w w':=by
 refine callsD_of_wpS Tryz.func57 rfl fun ZC cs hu=>?_;apply wpS_seq;apply wpS_region;simp[wpOpsS,go_sem,recoverD,hu,Tryz.ntmps57,Exit.thenS];refine wpS_cond (t:=true) (by simp[Act.eval,Array.replicate]) ?_;simp only[if_true];apply wpS_of_wp;apply wp_region_lit;refine aG rfl 34 _ rfl w (.agg uH) (by kernel_rfl) ?_;refine nG rfl 34 _ _ rfl gA uH rfl rfl hA (by rw[h8];rfl) (by kernel_rfl) (by kernel_rfl) fun w1 hA1 aB=>?_;have hB1:=hB.other aB (Ne.symm eG);refine dS rfl 4 _ _ rfl gB 0 (.bool false) rfl rfl rfl hB1 rfl (by kernel_rfl) fun w2 hB2 JM=>?_;have hA2:=hA1.other JM eG;have kZ:Below (min gA gB) w w2:=(aB.1.mono (Nat.min_le_left _ _)).trans (JM.1.mono (Nat.min_le_right _ _));apply wpList_nil;simp[bodyPostS,results,Tryz.results57,Act.put];exact⟨hA2,hB2,kZ⟩
theorem W6 (gA gB:Nat) (w:World):
 CallsD Tryz.prog 57 #[.pointer (some ⟨gA,0,none⟩),.pointer (some ⟨gB,0,none⟩)] .returning w fun e u' w'=>e= .returned (.tuple #[])∧u'= .returning∧w'=w:=by
 refine callsD_of_wpS Tryz.func57 rfl fun ZC cs hu=>?_;apply wpS_seq;apply wpS_region;simp[wpOpsS,go_sem,recoverD,hu,Tryz.ntmps57,Exit.thenS];refine wpS_cond (t:=false) (by simp[Act.eval,Array.replicate]) ?_;simp only[Bool.false_eq_true,if_false];refine wpS_of_wp (wp_skip ?_);cases ZC;simp_all [bodyPostS,results,Tryz.results57]
theorem results31 {tmps:Array Value} {gA gB:Nat} {arr:Array Value} {b:Bool} {w:World} (h2:tmps.getD 4 undef= .pointer (some ⟨gA,0,none⟩)) (h3:tmps.getD 5 undef= .pointer (some ⟨gB,0,none⟩)) (h8:arr.size=23) (hA:Row w gA 34 arr) (hB:Row w gB 4 #[.bool b]):
 (results Tryz.f31 tmps).run Tryz.prog w= .ok (.tuple #[.agg arr,.bool b]) w:=by
 have hr:Tryz.f31.results= #[.cell 4 34,.cell 5 4]:=by kernel_rfl
 have hl:=run_loadVar_row (P:=Tryz.prog) w gA 34 34 arr (0,0) _ hA Tryz.underlying34 rfl (by rw[h8];kernel_rfl);have hc:w.cell? ⟨gB,0,none⟩=some (.bool b):=hB.cell rfl;have h2':tmps[4]?.getD undef= .pointer (some ⟨gA,0,none⟩):=by simpa using h2
 have h3':tmps[5]?.getD undef= .pointer (some ⟨gB,0,none⟩):=by simpa using h3
 have cG:(loadVar 4 ⟨gB,0,none⟩).run Tryz.prog w= .ok (.bool b) w:=by simp[loadVar,go_sem,hc]
 simp[results,hr,h2',h3',asAddr,hl,cG]
def RdV (o:Option bD) (w:World) (e:Ending) (w':World):Prop:=Below w.heap.size w w'∧∃arr,e= .returned (.tuple #[.agg arr,.bool o.isSome])∧cT (fun b=>b < w.heap.size) w' arr (o.getD {})
theorem Ju {N0:Nat→Prop} {arr:Array Value} {b:bD} {p:cU} {w:World} (hb:cT N0 w arr b) (kZ:b.path.length≤10000000) (hp:mS p) (hW:Laid w):Calls Tryz.prog 31 #[.agg arr,.agg (fK p)] w fun e w'=>RdV (kS J0 b p) w e w':=by
 have hmf:∀(fn:Fn) (first cap:Array Value) (w:World),(Instr.makeFunc fn first cap).run Tryz.prog w= .ok (.func fn first cap) w:=fun _ _ _ _=>rfl;have HW:=hid hW;have lE:=hid hb;have Ts:=hid hb.dH;have HJ:=hid (fun W (h1:cT N0 W arr b) hW=>Tr h1 kZ hp (w:=W) hW);generalize kS J0 b p=O at*;simp only[fK] at HJ⊢;clear hW hb kZ hp;have HB:Hid (Below w.heap.size w w):=hid (Below.refl _ _)
 go_enter_defers Tryz.func31,Tryz.ntmps31
 go_wp2_with (first|(refine jG (d:=2) rfl rfl ?_;intro gB w2 aE hN;have Ky:=jU HB hN;replace lE:=hid (lE.out.below hN.out.2.1);replace HB:=aR HB hN.out.2.1;clear hN)|(refine jG (d:=3) rfl rfl ?_;intro gP w2 aK hN;have nA:=fU aE hN;have UM:=jU HB hN;replace aE:=aE.below hN.out.2.1;replace lE:=hid (lE.out.below hN.out.2.1);replace HB:=aR HB hN.out.2.1;clear hN)|(refine eX rfl (aO _) ?_;intro gA w2 cP hN;have eF:=fU aE hN;have dY:=fU aK hN;have GS:=jU HB hN;replace aE:=aE.below hN.out.2.1;replace aK:=aK.below hN.out.2.1;replace lE:=hid (lE.out.below hN.out.2.1);replace HB:=aR HB hN.out.2.1;clear hN)|(refine eX rfl (mO _) ?_;intro gC w2 fY hN;have Z4:=fU aE hN;have alM:=fU aK hN;have Z5:=fU cP hN;have lgC:=jU HB hN;replace aE:=aE.below hN.out.2.1;replace aK:=aK.below hN.out.2.1;replace cP:=cP.below hN.out.2.1;replace lE:=hid (lE.out.below hN.out.2.1);replace HB:=aR HB hN.out.2.1;clear hN)|(refine fF rfl aE jP Ts.out.1 rfl ?_)|(refine fF rfl aK CO rfl rfl ?_));have QY:=hid (And.intro cP.lt fY.lt);have yU:=hid HB.out.size;refine(HJ.out _ lE.out (HW.out.below HB.out HW.out.size)).mono ?_;rintro e w5 ⟨aM,h5⟩;replace aE:=aE.below aM;replace aK:=aK.below aM;replace cP:=cP.below aM;replace fY:=fY.below aM;replace lE:=hid (lE.out.below aM);replace HB:=aR HB aM;clear aM lE;cases O with
 |none=>simp only at h5;subst h5;unfold Aa;go_wp2_with fail;refine leaves_cons (f:=57) (args:= #[.pointer (some ⟨gA,0,none⟩),.pointer (some ⟨gC,0,none⟩)]) (by simp) (by simp[go_sem]) ?_;refine(Tt gA gC _ _ _ cP rfl fY (Nat.ne_of_lt Z5) []).mono ?_;rintro e u' w9 ⟨rfl,rfl,hA9,hB9,sJ⟩;exact⟨_,results31 rfl rfl rfl hA9 hB9,HB.out.trans (sJ.mono (by omega)),_,rfl,cT.zero _ _⟩
 |some v=>obtain⟨ar,rfl,yM⟩:=h5;have lW:=hid yM;clear yM;go_wp2_with (first|(refine vR rfl cP lW.out.dH jP rfl rfl ?_;intro w1 aH aB;replace aE:=aE.other aB (Nat.ne_of_lt eF);replace aK:=aK.other aB (Nat.ne_of_lt dY);replace fY:=fY.other aB (Nat.ne_of_gt Z5);replace lW:=hid (lW.out.save (bL.of aB) QY.out.1);replace HB:=bU HB aB.1 GS;replace cP:=aH;clear aB aH)|(refine oT 0 rfl fY rfl I4 ?_;intro w1 aH aB;replace aE:=aE.other aB (Nat.ne_of_lt Z4);replace aK:=aK.other aB (Nat.ne_of_lt alM);replace cP:=cP.other aB (Nat.ne_of_lt Z5);replace lW:=hid (lW.out.save (bL.of aB) QY.out.2);replace HB:=bU HB aB.1 lgC;replace fY:=aH;clear aB aH;simp[Act.eval] at fY));refine leaves_cons (f:=57) (args:= #[.pointer (some ⟨gA,0,none⟩),.pointer (some ⟨gC,0,none⟩)]) (by simp) (by simp[go_sem]) ?_;refine(W6 gA gC _).mono ?_;rintro e u' w9 ⟨rfl,rfl,rfl⟩;exact⟨_,results31 rfl rfl lW.out.dH.1 cP fY,HB.out,_,rfl,lW.out.lD fun x hx=>Nat.lt_of_lt_of_le hx yU.out⟩
theorem rX.row {w:World} {B b:Nat} (h:Row w b 65 #[.pointer none,.slice none 0 0]) (hB:B≤b):rX w B b []:=
 Or.inl ⟨hB,.slice none 0 0,h,World.ownsRow_nil _ _ _ _,by simp[Value.ownBlock]⟩
theorem LC (w:World) (uX:Value):(Instr.alloc 65 true uX).run Tryz.prog w= .ok (.pointer (some ⟨w.heap.size,0,none⟩)) (w.alloc (.cells #[.pointer none,.slice none 0 0] 65)):=by kernel_rfl
def aiJ (a b:Bool) (us ps:ByteArray):ByteArray:=if b then(if a then⟨#[]⟩ else us++⟨#[64]⟩) else us++⟨#[58]⟩++ps++⟨#[64]⟩
theorem aiK (u:bD) {a b:Bool} (ha:(aA u.user).toList.isEmpty=a) (hb:(aA u.pass).toList.isEmpty=b):aiJ a b (aA u.user) (aA u.pass)=aA (xM u):=by
 rw[cC] at ha hb;subst ha hb;unfold xM aiJ;cases u.user with
 |nil=>cases u.pass with
  |nil=>rfl
  |cons c d=>show aA []++aA [58]++aA (c::d)++aA [64]=aA ([]++[58]++(c::d)++[64]);rw[iL,iL,iL]
 |cons a b=>cases u.pass with
  |nil=>show aA (a::b)++aA [64]=aA ((a::b)++[64]);rw[iL]
  |cons c d=>show aA (a::b)++aA [58]++aA (c::d)++aA [64]=aA ((a::b)++[58]++(c::d)++[64]);rw[iL,iL,iL]
theorem LD {a b:ByteArray} (h:a=b):Ending.returned (.string a)= .returned (.string b):=by rw[h]
theorem Tu (u:bD) (pv:Value) (h8:u.host.six.length=8) (hu:u.user.length≤1000000000) (hp:u.pass.length≤1000000000) (w:World):Calls Tryz.prog 24 #[.agg (dP pv u)] w fun e w'=>e= .returned (.string (aA (xM u)))∧Below w.heap.size w w':=by
 have HF:∀a b,(aA u.user).toList.isEmpty=a→(aA u.pass).toList.isEmpty=b→Hid (aA (xM u)=aiJ a b (aA u.user) (aA u.pass)):=fun a b ha hb=>hid (aiK u ha hb).symm;generalize aA (xM u)=R at*;obtain⟨sch,us,ps,⟨k,name,four,six⟩,hpt,po,oq,fl,path,hq,qu,hf,fr⟩:=u;simp only at h8 hu hp HF;obtain⟨x0,x1,x2,x3,x4,x5,x6,x7,rfl⟩:=eight h8;simp only[dP,eY,List.map,List.cons_append,List.nil_append];have z1:(aA us).size≤1000000000:=by rw[aD];exact hu
 have z2:(aA ps).size≤1000000000:=by rw[aD];exact hp
 generalize aA us=us at*;generalize aA ps=ps at*;have z3:(us++(⟨#[58]⟩:ByteArray)).size≤1000000001:=by rw[ByteArray.size_append];show _+1≤_;omega
 have z4:(us++(⟨#[58]⟩:ByteArray)++ps).size≤2000000001:=by rw[ByteArray.size_append];omega
 clear h8 hu hp;cases ha:us.toList.isEmpty<;>cases hb:ps.toList.isEmpty;all_goals
  have HR:=HF _ _ ha hb;clear HF;go_enter Tryz.func24,Tryz.ntmps24;go_wp2_with (refine jG rfl rfl ?_;intro g w1 jK hA;have c1:=jK.cell (i:=1) rfl;have c2:=jK.cell (i:=2) rfl);go_ret;exact⟨LD (by rw[HR.out];rfl),hA.out.2.1⟩
def wQ (L:List (List UInt8)):List UInt8:=L.flatMap fun p=>47::p
theorem Tv {L:List (List UInt8)} {k:Nat} (h:k < L.length):wQ (L.take (k+1))=wQ (L.take k)++[47]++L[k]:=by unfold wQ;rw[List.take_succ_eq_append_getElem h,List.flatMap_append];simp
theorem Qk (L:List (List UInt8)) (k:Nat):(wQ (L.take k)).length≤(wQ L).length:=by
 unfold wQ;conv=>rhs;rw[←List.take_append_drop k L,List.flatMap_append,List.length_append]
 omega
theorem Ql (u:bD) (pv:Value) (h8:u.host.six.length=8) (hlen:(lZ u).length≤1000000000) (hn:u.path.length≤1000000000) (w:World) (hv:bT w pv (u.path.map aA)):Calls Tryz.prog 27 #[.agg (dP pv u)] w fun e w'=>e= .returned (.string (aA (lZ u)))∧Below w.heap.size w w':=by
 have HF:Hid (lZ u=if u.opaq then u.flat else wQ u.path):=hid rfl;obtain⟨A,c,mC,_⟩:=hv.len;rw[List.length_map] at mC;subst mC;have HV:=hid hv;generalize lZ u=R at*;obtain⟨sch,us,ps,⟨k,name,four,six⟩,hpt,po,oq,fl,path,hq,qu,hf,fr⟩:=u;simp only at h8 hn HF HV;obtain⟨x0,x1,x2,x3,x4,x5,x6,x7,rfl⟩:=eight h8;simp only[dP,eY,List.map,List.cons_append,List.nil_append];clear hv h8;cases oq with
 |true=>go_enter Tryz.func27,Tryz.ntmps27;go_wp2_with (refine jG rfl rfl ?_;intro g w1 jK hA;have c6:=jK.cell (i:=16) rfl;have c7:=jK.cell (i:=17) rfl);go_ret;exact⟨LD (by rw[HF.out];rfl),hA.out.2.1⟩
 |false=>
  have HR:Hid (R=wQ path):=hid (HF.out.trans (if_neg (by simp)));have iJ:(wQ path).length≤1000000000:=by rw[←HR.out];exact hlen
  have aoF:=hid iJ;clear HF hlen iJ;go_enter Tryz.func27,Tryz.ntmps27;go_wp2_with (first|(refine jG rfl rfl ?_;intro g w1 jK hA;have c6:=jK.cell (i:=16) rfl;have c8:=jK.cell (i:=18) rfl;have eN:=hA.out.2.1;have HLT:=hid jK.lt;have HB:=hid eN;have HV1:=hid (HV.out.below eN);clear hA eN HV)|(refine eX rfl (LC _) ?_;intro gb w2 Kr hN;have jO:=hid (rX.row Kr (Nat.le_of_eq hN.out.1.symm));replace jK:=jK.below hN.out.2.1;have cK:=hid hN.out.2.1;have c8:=jK.cell (i:=18) rfl;clear hN Kr));go_loopw [13] (fun i wr=>∃k:Nat,k≤path.length∧i= .int .i64 (k:Int)∧Hid (rX wr w1.heap.size gb (wQ (path.take k)))∧Hid (Below w1.heap.size w1 wr)) (fun i _=>path.length - (intOf i).toNat);case atStart=>exact⟨0,Nat.zero_le _,rfl,jO,cK⟩
  case round=>
   clear jO cK c8 c6 jK;obtain⟨k,hk,rfl,jO,cK⟩:=hrel;have iV:=cK.out.size;by_cases bC:k < path.length
   ·have XN:k < (path.map aA).length:=by simpa using bC
    obtain⟨gp,off,rfl,hc⟩:=(HV1.out.below cK.out).cellAt XN;rw[List.getElem_map] at hc;have HJ:=hid (Tv bC);have XT:=Qk path k;have Q5:=Qk path (k+1);have hj3:=aoF.out;have hj4:(wQ (path.take (k+1))).length=(wQ (path.take k)).length+1+path[k].length:=by rw[HJ.out,List.length_append,List.length_append];rfl
    have Ki:(wQ (path.take k)).length≤1000000000:=by omega
    have La:(wQ (path.take k)++[47]).length+(aA path[k]).size≤1000000000:=by rw[aD,List.length_append];show _+1+_≤_;omega
    have HQ1:=hid Ki;have HQ2:=hid La;generalize path[k]=p at*;clear XT Q5 hj3 hj4 XN Ki La;go_wp2_with fail;refine(iP _ _ _ _ 47 rfl jO.out (by have:=HQ1.out;omega) iV).mono ?_;rintro e w4 ⟨rfl,h4,cG⟩;have CR:=hid h4;have fG:=hid (cK.out.trans cG);have ahN:=fG.out.size;clear h4 cG;go_wp2_with fail;refine(cO _ _ _ _ (aA p) CR.out (by have:=HQ2.out;omega) ahN).mono ?_;rintro e w5 ⟨rfl,h5,aM⟩;have IW:=hid h5;have iI:=hid (fG.out.trans aM);clear h5 aM;go_wp2_with fail;go_roundw;case rel=>exact⟨k+1,by omega,by go_num,hid (by rw[HJ.out,←aC p];exact IW.out),iI⟩
    case measure=>simp[intOf];omega
   ·obtain rfl:k=path.length:=by omega
    go_wp2_with fail;refine(eU _ _ _ _ jO.out iV).mono ?_;rintro e w4 ⟨rfl,cG⟩;have fG:=hid (HB.out.trans ((cK.out.trans cG).mono HB.out.size));clear cG;go_wp2_with fail;go_ret;exact⟨LD (by rw[HR.out];rfl),fG.out⟩
theorem oJ (l:List UInt8):(aA l).toList=l:=by rw[ByteArray.toList_eq,aC]
theorem lX (s:List UInt8) (hs:s.length≤1000000000) (w:World):Calls Tryz.prog 75 #[.string (aA s)] w fun e w'=>e= .returned (.string (aA (s.dropWhile aI)))∧w=w':=by
 have Oo:=hid (fun c w=>mE c w);have HZ:=hid (aD s);have HD:Hid (Hid (s.dropWhile aI=(s.drop 0).dropWhile aI)):=hid (hid rfl);generalize s.dropWhile aI=R at*;go_enter Tryz.func75,Tryz.ntmps75;go_wp2_with fail;go_loopw [3] (fun i wr=>∃k:Nat,i= .int .i64 (k:Int)∧k≤s.length∧Hid (R=(s.drop k).dropWhile aI)∧w=wr) (fun i _=>s.length - (intOf i).toNat);case atStart=>exact⟨0,rfl,Nat.zero_le _,HD.out,rfl⟩
 case round=>
  clear HD;obtain⟨k,rfl,mD,HF,rfl⟩:=hrel;have ME:k≤(aA s).size:=by rw[HZ.out];exact mD
  have HRS:=hid (cX s k);by_cases bC:k < s.length
  ·obtain⟨c,hd,hg⟩:=iM bC;have jY:k < (aA s).size:=by rw[HZ.out];exact bC
   have tL:=hg jY;have iE:c.toNat < 256:=c.toNat_lt;have C5:=hid (Oo.out c);cases nF:aI c with
   |true=>
    have HN:Hid (R=(s.drop (k+1)).dropWhile aI):=hid (by rw[HF.out,hd,List.dropWhile_cons_of_pos nF]);rw[nF] at C5;clear hd hg HF nF HRS;go_wp2_with fail;refine(C5.out _).mono ?_;rintro e w' ⟨rfl,rfl⟩;go_wp2_with fail;go_roundw;case rel=>exact⟨k+1,by go_num,by omega,HN,by first|trivial|rfl⟩
    case measure=>simp[intOf];omega
   |false=>have HN:Hid (R=s.drop k):=hid (by rw[HF.out,hd,List.dropWhile_cons_of_neg (by simp[nF])]);rw[nF] at C5;clear hd hg nF HF;go_wp2_with fail;refine(C5.out _).mono ?_;rintro e w' ⟨rfl,rfl⟩;go_wp2_with fail;go_ret;exact⟨nM (by rw[HN.out];exact HRS.out),rfl⟩
  ·have An:(aA s).size≤k:=by rw[HZ.out];omega
   have HN:Hid (R=s.drop k):=hid (by rw[HF.out,List.drop_of_length_le (by omega)];rfl);clear bC HF;go_wp2_with fail;go_ret;exact⟨nM (by rw[HN.out];exact HRS.out),rfl⟩
theorem GU (s:List UInt8) (hs:s.length≤1000000000) (w:World):Calls Tryz.prog 79 #[.string (aA s)] w fun e w'=>e= .returned (.string (aA (nZ s)))∧Below w.heap.size w w':=by
 have HZ:=hid (aD s);have iV:=aD s;have HF:Hid (nZ s=if gN (s.take 3)=[117,114,108] then(match(s.drop 3).dropWhile aI with
  |61::t=>t.dropWhile aI
  |_=>s) else s):=hid rfl
 generalize nZ s=R at*;by_cases h3:s.length < 3;have yW:gN (s.take 3)≠[117,114,108]:=fun e=>by have:=congrArg List.length e;simp[gN] at this;omega
 replace HF:=hid (HF.out.trans (if_neg yW));have h3z:(aA s).size < 3:=by omega
 have hdz:decide (((aA s).size:Int) < 3)=true:=by simp;omega
 clear h3 yW iV h3z;have tg:=Tg.k 0;rotate_left;have h3z:3≤(aA s).size:=by omega
 have hdz:decide (((aA s).size:Int) < 3)=false:=by simp;omega
 have hex:=jW s 3;have hre:=cX s 3;have HLO:=hid (fun W=>sW (s.take 3) W (by rw[List.length_take];omega));have jO:=hid (fun W=>lX (s.drop 3) (by rw[List.length_drop];omega) W);have CK:=bW aI (s.drop 3);rw[List.length_drop] at CK;have hnz:(3:Int)≤((aA s).size:Int):=by omega
 generalize s.take 3=t3 at*;generalize s.drop 3=d3 at*;by_cases vA:gN t3=[117,114,108];replace HF:=hid (HF.out.trans (if_pos vA));rw[vA] at HLO;have La:((aA [117,114,108]).toList==[117,114,108])=true:=by rw[oJ];rfl
 have hq3:((aA [117,114,108]).toList !=[117,114,108])=false:=by rw[bne,La];rfl
 generalize aA [117,114,108]=lo at*;generalize d3.dropWhile aI=b at*;clear vA iV h3;cases hp:([61]:List UInt8).isPrefixOf b;have hRs:R=s:=by
  rw[HF.out];split;·rename_i t;simp at hp
  ·rfl
 replace HF:=hid hRs;have HCP:=hid (jX b [61] hp);clear hp CK hRs;have tg:=Tg.k 2;rotate_left;obtain⟨t,rfl⟩:∃t,b=61::t:=by
  cases b with
  |nil=>simp at hp
  |cons c t=>simp at hp;exact⟨t,by rw[←hp]⟩
 have HCP:=hid (iZ (61::t) [61] hp);have cK:=hid (fun W=>lX t (by rw[List.length_cons] at CK;omega) W);replace HCP:Hid (∀w,Calls Tryz.prog 118 #[.string (aA (61::t)),.string (aA [61])] w fun e w'=>e= .returned (.tuple #[.string (aA t),.bool true])∧w=w'):=HCP;replace HF:Hid (R=t.dropWhile aI):=HF;generalize (61::t)=b at*;clear hp CK;have tg:=Tg.k 1;rotate_left;replace HF:=hid (HF.out.trans (if_neg vA));have La:((aA (gN t3)).toList==[117,114,108])=false:=by rw[oJ];simpa using vA
 have hq3:((aA (gN t3)).toList !=[117,114,108])=true:=by rw[bne,La];rfl
 generalize aA (gN t3)=lo at*;clear vA iV h3 CK jO;have tg:=Tg.k 3;all_goals
  go_enter Tryz.func79,Tryz.ntmps79;go_wp2_with fail;first
  |have:Tg 0:=tg;go_ret;exact⟨nM (congrArg aA HF.out.symm),Below.refl _ _⟩
  |refine(HLO.out _).mono ?_;rintro e w5 ⟨rfl,aM⟩;go_wp2_with fail;first
   |have:Tg 3:=tg
   |refine(jO.out _).mono ?_;rintro e w6 ⟨rfl,rfl⟩;go_wp2_with fail;refine(HCP.out _).mono ?_;rintro e w6 ⟨rfl,rfl⟩;go_wp2_with fail;first
    |have:Tg 1:=tg;refine(cK.out _).mono ?_;rintro e w6 ⟨rfl,rfl⟩;go_wp2_with fail
    |skip
   go_ret;exact⟨nM (congrArg aA HF.out.symm),aM⟩
theorem W7 {p:UInt8→Bool}:∀{l:List UInt8},(∀x∈l,p x=true)→l.takeWhile p=l:=by
 intro l;induction l with
 |nil=>intro _;rfl
 |cons a r ih=>intro h;rw[List.takeWhile_cons_of_pos (h a List.mem_cons_self),ih fun x hx=>h x (List.mem_cons_of_mem _ hx)]
theorem Fm (s:List UInt8) (hs:s.length≤1000000000) (w:World) (hW:Laid w):Calls Tryz.prog 78 #[.string (aA s)] w fun e w'=>e= .returned (.string (aA (nD s)))∧Below w.heap.size w w':=by
 have HW:=hid hW;have HZ:=hid (aD s);rcases s with _|⟨q,t⟩;have XO:(aA ([]:List UInt8)).toList.isEmpty=true:=by rw[cC];rfl
 have HE:Hid (nD []=[]):=hid rfl;rw[HE.out];generalize aA ([]:List UInt8)=s0 at*;have tg:=Tg.k 0;rotate_left;have bC:=q.toNat_lt;have iV:=aD (q::t);rw[List.length_cons] at iV hs;have h0:0 < (aA (q::t)).size:=by omega
 have tL:(aA (q::t))[0]'h0=q:=jI _ 0 h0;have XO:(aA (q::t)).toList.isEmpty=false:=by rw[cC];rfl
 have HF:Hid (nD (q::t)=if q=34∨q=39 then t.takeWhile (· !=q) else(q::t)):=hid rfl;have hre:=cX (q::t) 1;have hhe:=jW (q::t) 1;replace hre:(aA (q::t)).extract 1 (aA (q::t)).size=aA t:=hre;replace hhe:(aA (q::t)).extract 0 1=aA [q]:=hhe;have HCU:=hid (fun W hW=>oG t q (by omega) W hW);generalize nD (q::t)=R at*;have h1z:1≤(aA (q::t)).size:=h0;have h1i:(1:Int)≤((aA (q::t)).size:Int):=by omega
 have hcut:(bM q t).1=t.takeWhile (· !=q):=by
  unfold bM;split;·rfl
  ·rename_i h;have hn:q∉t:=by simpa using h
   refine(W7 fun x hx=>?_).symm;simp only[bne_iff_ne,ne_eq];exact fun e=>hn (e▸hx)
 rw[←hcut] at HF;generalize (q::t)=s at*;have dO:q=34∨(q≠34∧q=39)∨(q≠34∧q≠39):=by by_cases h:q=34<;>by_cases h2:q=39<;>simp_all
 rcases dO with rfl|⟨Ki,rfl⟩|⟨Ki,La⟩;replace HF:=hid (HF.out.trans (if_pos (.inl rfl)));clear hcut iV;have tg:=Tg.k 1;rotate_left;replace HF:=hid (HF.out.trans (if_pos (.inr rfl)));clear hcut iV Ki;have tg:=Tg.k 2;rotate_left;replace HF:=hid (HF.out.trans (if_neg (fun h=>h.elim Ki La)));have e1:((q.toNat:Int)==34)=false:=by rw[beq_eq_false_iff_ne];intro e;exact Ki (UInt8.toNat_inj.1 (by simpa using (by omega:q.toNat=34)))
 have e2:((q.toNat:Int)==39)=false:=by rw[beq_eq_false_iff_ne];intro e;exact La (UInt8.toNat_inj.1 (by simpa using (by omega:q.toNat=39)))
 have e3:((q.toNat:Int)!=34)=true:=by rw[bne,e1];rfl
 have e4:((q.toNat:Int)!=39)=true:=by rw[bne,e2];rfl
 clear hcut iV Ki La HCU;have tg:=Tg.k 3;all_goals
  go_enter Tryz.func78,Tryz.ntmps78;go_wp2_with fail;first
  |have:Tg 3:=tg;go_ret;exact⟨nM (congrArg aA HF.out.symm),Below.refl _ _⟩
  |have:Tg 0:=tg;go_ret;exact⟨rfl,Below.refl _ _⟩
  |apply BS (fun _ W=>Laid W∧Below w.heap.size w W) rfl (by kernel_rfl) ⟨HW.out.step (bB _),bB _⟩;simp only[];repeat (first
    |(apply iW.step; ·rfl
      ·intro L W hI hl K hK;go_simp;exact hK _ hI
      simp only[pq])
    |(apply iW.step; ·rfl
      ·intro L W hI hl K hK;go_simp;go_at_call 53;refine(HCU.out W hI.1).mono ?_;rintro e w2 ⟨rfl,dE⟩;exact hK _ ⟨hI.1.step dE,hI.2.trans (dE.mono hI.2.size)⟩
      simp only[pq]))
   apply iW.nil;intro L w9 hL hI;have HB:=hid hI.2;clear hL hI;go_wp2_with fail;go_ret;exact⟨nM (congrArg aA HF.out.symm),HB.out⟩
theorem Z6 (n:Nat) (hn:n≤65535) (w:World) (hW:Laid w):Calls Tryz.prog 26 #[.int .i64 (n:Int)] w fun e w'=>e= .returned (.string (aA (Lib.decDigits n)))∧Below w.heap.size w w':=by have HC:=hid (Tryz.internal_strconv_Itoa (n:Int) (by omega) (by omega) w hW.pow);clear hW;go_enter Tryz.func26,Tryz.ntmps26;go_wp2_with fail;refine HC.out.mono ?_;rintro e w' ⟨rfl,k,os,hw⟩;rw[Lib.itoa_nonneg];have HB:=hid (show Below w.heap.size w w' by rw[hw];exact Lib.below_grow w.heap.size w (Nat.le_refl _) k os);clear hw;go_wp2_with fail;go_ret;exact⟨rfl,HB.out⟩
theorem rX.below {w w':World} {B b:Nat} {l:List UInt8} (h:rX w B b l) (hb:Below w.heap.size w w'):rX w' B b l:=by
 have key:∀p,Lib.BuilderAt 65 5 B b p (Lib.byteCells l) w→Lib.BuilderAt 65 5 B b p (Lib.byteCells l) w':=by
  rintro p ⟨h1,v,h2,h3,h4⟩;refine⟨h1,v,(hb.block b (Array.getElem?_eq_some_iff.1 h2).1).trans h2,?_,h4⟩;obtain⟨k1,k2⟩:=h3;refine⟨k1,?_⟩;rcases k2 with k2|⟨g,cap,cur,hv,hg,hh,r⟩;·exact .inl k2
  ·exact .inr ⟨g,cap,cur,hv,hg,by rw[hb.block g (Array.getElem?_eq_some_iff.1 hh).1];exact hh,r⟩
 exact h.imp (key _) (key _)
theorem Gb (u:bD):(aQ J0 u true).length=u.scheme.length+1+(gE J0 u).length+(lZ u).length+(if u.hasQuery then 1+u.query.length else 0)+(if u.hasFrag then 1+u.frag.length else 0):=by unfold aQ;simp only[List.length_append,List.length_cons,List.length_nil,Bool.and_true];cases u.hasQuery<;>cases u.hasFrag<;>simp<;>omega
theorem Tw {u:bD} (h:u.host.kind≠0):(gE J0 u).length=2+(xM u).length+(oY u.host).length+(if u.hasPort then 1+(Lib.decDigits u.port).length else 0):=by unfold gE;rw[if_pos h];simp only[List.length_append,List.length_cons,List.length_nil,J0];cases u.hasPort<;>simp<;>omega
theorem W8 (u:bD):u.user.length≤(xM u).length∧u.pass.length≤(xM u).length:=by
 unfold xM;split;·rename_i h;rw[h.1,h.2];simp
 ·split;·rename_i h;rw[h];simp
  ·simp;omega
theorem aiL {u:bD} (h:u.host.kind≠0):gE J0 u=[47,47]++xM u++oY u.host++(if u.hasPort then[58]++Lib.decDigits u.port else[]):=by unfold gE;rw[if_pos h];rfl
theorem aiM {u:bD} (h:u.host.kind=0) (ho:u.opaq=true):gE J0 u=[]:=by unfold gE;rw[if_neg (by omega),if_neg (by simp[ho])]
theorem aiN {u:bD} (h:u.host.kind=0) (ho:u.path.length < 2):gE J0 u=[]:=by unfold gE;rw[if_neg (by omega),if_neg (by omega)]
theorem aiO {u:bD} (h:u.host.kind=0) (ho:u.opaq=false) {p:List UInt8} {r:List (List UInt8)} (hp:u.path=p::r) (h2:2≤u.path.length):gE J0 u=if p.isEmpty then[47,46] else[]:=by
 unfold gE;rw[if_neg (by omega)];cases p with
 |nil=>rw[if_pos ⟨ho,h2,by rw[hp];rfl⟩];rfl
 |cons a b=>rw[if_neg (by rw[hp];simp)];rfl
theorem Tx (u:bD) (frag:Bool):aQ J0 u frag=u.scheme++[58]++gE J0 u++lZ u++(if u.hasQuery then[63]++u.query else[])++(if u.hasFrag&&frag then[35]++u.frag else[]):=rfl
theorem Nk (u:bD) (pv:Value) (frag:Bool) (hu:mZ u) (hlen:(aQ J0 u true).length≤500000000) (hn:u.path.length≤1000000000) (w:World) (hW:Laid w) (hv:bT w pv (u.path.map aA)):
 Calls Tryz.prog 10 #[.agg (dP pv u),.bool frag] w fun e w'=>e= .returned (.string (aA (aQ J0 u frag)))∧Below w.heap.size w w':=by
 have hwp:=Gb u;have aoG:=W8 u;have HW:=hid hW;have HV:=hid hv;have HA:= @aiL u;have HO:= @aiM u;have ZZ:= @aiN u;have fW:= @aiO u;have hap:= @Tw u;have Qm:=hid (fun(h:u.host.kind≠0) W=>Tu u pv hu.host.six (by have:=hap h;omega) (by have:=hap h;omega) W);have Z7:=hid (fun(h:u.host.kind≠0)=>(show(xM u).length≤500000000 by have:=hap h;omega));have Z8:=hid (fun(h:u.host.kind≠0)=>(show(oY u.host).length≤500000000 by have:=hap h;omega));have UN:=hid (fun W hW=>Jc u.host hu.host W hW);have Z9:=hid (fun W hv=>Ql u pv hu.host.six (by omega) hn W hv);have NG:=hid (fun W hW=>Z6 u.port hu.port W hW);have HPL:=hid (show(Lib.decDigits u.port).length≤5 from aiD _ (NT u.port hu.port));have h8:=hu.host.six;have rW:u.scheme.length≤500000000:=by omega
 have qK:(gE J0 u).length≤500000000:=by omega
 have hz3:(lZ u).length≤500000000:=by omega
 have HZ:=hid (And.intro rW (And.intro qK hz3));have HZQ:=hid (fun(h:u.hasQuery=true)=>(show u.query.length≤500000000 by rw[h] at hwp;simp only[if_true] at hwp;omega));have HZF:=hid (fun(h:u.hasFrag=true)=>(show u.frag.length≤500000000 by rw[h] at hwp;simp only[if_true] at hwp;omega));have XF:=hid (Tx u frag);generalize aQ J0 u frag=R at*;clear hap aoG hwp rW qK hz3 hlen hW hu;generalize gE J0 u=at_ at*;generalize lZ u=pt at*;generalize xM u=wh at*;generalize oY u.host=ho at*;generalize Lib.decDigits u.port=dg at*;obtain⟨A,c,mC,_⟩:=hv.len;rw[List.length_map] at mC;subst mC;obtain⟨sch,us,ps,⟨k,name,four,six⟩,hpt,po,oq,fl,path,hq,qu,hf,fr⟩:=u;simp only at h8 HV HA HO ZZ fW Qm Z7 Z8 HZ HZQ HZF XF hn⊢;obtain⟨x0,x1,x2,x3,x4,x5,x6,x7,rfl⟩:=eight h8;simp only[dP,eY,List.map,List.cons_append,List.nil_append] at Qm Z9⊢;simp only[cL,eY,List.map,List.cons_append,List.nil_append] at UN;generalize hkb:((k:Int)!=0)=kb;have HKB:=hid hkb;clear hv h8;go_enter Tryz.func10,Tryz.ntmps10;go_wp2_with (first|(refine jG rfl rfl ?_;intro g w1 jK hA1;have eN:=hA1.out.2.1;have uF:=hid jK;have HB:=hid eN;have c0:=jK.cell (i:=0) rfl;have HV1:=hid (HV.out.below eN);have HW1:=hid (HW.out.step eN);clear hA1 eN jK HV HW)|(refine eX rfl (LC _) ?_;intro gb w2 Kr hN;have jO:=hid (rX.row Kr (Nat.le_of_eq hN.out.1.symm));have cK:=hid hN.out.2.1;have c0:=(uF.out.below hN.out.2.1).cell (i:=0) rfl;clear hN Kr));clear c0;refine(cO _ _ _ _ (aA sch) jO.out (by have:=HZ.out.1;rw[aD,List.length_nil];omega) (cK.out.size)).mono ?_;rintro e w5 ⟨rfl,h5,aM⟩;rw[aC] at h5;replace jO:=hid h5;replace cK:=hid (cK.out.trans aM);clear h5 aM;go_wp2_with fail;refine(iP _ _ _ _ 58 rfl jO.out (by have:=HZ.out.1;have:=HZ.out.2.1;have:=HZ.out.2.2;simp only[List.length_append,List.length_cons,List.length_nil,aD];omega) (cK.out.size)).mono ?_;rintro e w5 ⟨rfl,h5,aM⟩;replace jO:=hid h5;replace cK:=hid (cK.out.trans aM);clear h5 aM;have c3:=(uF.out.below cK.out).cell (i:=3) rfl;go_upto_if 13 with fail
 clear c3;go_cut [] (fun wc=>Hid (rX wc w1.heap.size gb (sch++[58]++at_))∧Hid (Below w1.heap.size w1 wc));case first=>
  cases kb with
  |false=>
   have zO:k=0:=by have:=HKB.out;simpa using this
   cases oq with
   |true=>
    have HT:=hid (HO zO rfl);clear HA HO ZZ fW Qm Z7 Z8 zO;have XK:=(uF.out.below cK.out).cell (i:=16) rfl;go_wp2_with fail
    go_meet
    case rel=>exact⟨hid (by rw[HT.out,List.append_nil];exact jO.out),cK⟩
   |false=>
    by_cases h2:path.length < 2
    ·have HT:=hid (ZZ zO h2);have hd:decide ((2:Int)≤(path.length:Int))=false:=by simp;omega
     clear HA HO ZZ fW Qm Z7 Z8 zO;have XK:=(uF.out.below cK.out).cell (i:=16) rfl;have UI:=(uF.out.below cK.out).cell (i:=18) rfl;go_wp2_with fail
     go_meet
     case rel=>exact⟨hid (by rw[HT.out,List.append_nil];exact jO.out),cK⟩
    ·have hd:decide ((2:Int)≤(path.length:Int))=true:=by simp;omega
     obtain⟨p0,pr,hpr⟩:∃p0 pr,path=p0::pr:=by
      cases path with
      |nil=>simp at h2
      |cons a b=>exact⟨a,b,rfl⟩
     have HT:=hid (fW zO rfl hpr (by omega));have h0:0 < (path.map aA).length:=by rw[List.length_map];omega
     obtain⟨gp,off,rfl,hc⟩:=(HV1.out.below cK.out).cellAt h0;have hc':w5.cell? ⟨gp,off,none⟩=some (.string (aA p0)):=by
      have e0:(path.map aA)[0]'h0=aA p0:=by simp[hpr]
      rw[e0] at hc;exact hc
     clear HA HO ZZ fW Qm Z7 Z8 zO hc h0 hpr;cases he:p0.isEmpty with
     |true=>
      rw[he] at HT;have e1:(aA p0).toList.isEmpty=true:=by rw[cC];exact he
      clear he;have XK:=(uF.out.below cK.out).cell (i:=16) rfl;have UI:=(uF.out.below cK.out).cell (i:=18) rfl;go_wp2_with fail;clear XK UI;refine(cO _ _ _ _ (aA [47,46]) jO.out (by have:=HZ.out.1;have:=HZ.out.2.1;have:=HZ.out.2.2;simp only[List.length_append,List.length_cons,List.length_nil,aD];omega) (cK.out.size)).mono ?_;rintro e w5 ⟨rfl,h5,aM⟩;rw[aC] at h5;replace jO:=hid h5;replace cK:=hid (cK.out.trans aM);clear h5 aM;go_wp2_with fail
      go_meet
      case rel=>exact⟨hid (by rw[HT.out];exact jO.out),cK⟩
     |false=>
      rw[he] at HT;have e1:(aA p0).toList.isEmpty=false:=by rw[cC];exact he
      clear he;have XK:=(uF.out.below cK.out).cell (i:=16) rfl;have UI:=(uF.out.below cK.out).cell (i:=18) rfl;go_wp2_with fail
      go_meet
      case rel=>exact⟨hid (by rw[HT.out];simp only[Bool.false_eq_true,if_false,List.append_nil];exact jO.out),cK⟩
  |true=>
   have zO:k≠0:=by have:=HKB.out;simpa using this
   have HK:=hid zO;have HT:=hid (HA zO);clear HA HO ZZ fW zO;cases hpt with
   |false=>
    go_wp2_with fail;refine(cO _ _ _ _ (aA [47,47]) jO.out (by have:=HZ.out.1;have:=HZ.out.2.1;have:=HZ.out.2.2;simp only[List.length_append,List.length_cons,List.length_nil,aD];omega) (cK.out.size)).mono ?_;rintro e w5 ⟨rfl,h5,aM⟩;rw[aC] at h5;replace jO:=hid h5;replace cK:=hid (cK.out.trans aM);clear h5 aM;go_wp2_with (refine fF rfl (uF.out.below cK.out) jP rfl rfl ?_);refine(Qm.out HK.out _).mono ?_;rintro e w5 ⟨rfl,aM⟩;replace cK:=aR cK aM;replace jO:=hid (rX.below jO.out aM);clear aM;go_wp2_with fail;refine(cO _ _ _ _ (aA wh) jO.out (by have:=HZ.out.1;have:=HZ.out.2.1;have:=HZ.out.2.2;have:=Z7.out HK.out;have:=Z8.out HK.out;have:=HPL.out;simp only[List.length_append,List.length_cons,List.length_nil,aD];omega) (cK.out.size)).mono ?_;rintro e w5 ⟨rfl,h5,aM⟩;rw[aC] at h5;replace jO:=hid h5;replace cK:=hid (cK.out.trans aM);clear h5 aM;go_wp2_with (refine fO rfl 32 _ rfl _ 3 rfl (uF.out.below cK.out) [.int .i64 (k:Int),.string (aA name),.int .u32 (four:Int),.int .u16 (x0:Int),.int .u16 (x1:Int),.int .u16 (x2:Int),.int .u16 (x3:Int),.int .u16 (x4:Int),.int .u16 (x5:Int),.int .u16 (x6:Int),.int .u16 (x7:Int)] rfl _ Tryz.underlying32 rfl (by kernel_rfl) ?_);refine(UN.out _ (HW1.out.step cK.out)).mono ?_;rintro e w5 ⟨rfl,aM⟩;replace cK:=aR cK aM;replace jO:=hid (rX.below jO.out aM);clear aM;go_wp2_with fail;refine(cO _ _ _ _ (aA ho) jO.out (by have:=HZ.out.1;have:=HZ.out.2.1;have:=HZ.out.2.2;have:=Z7.out HK.out;have:=Z8.out HK.out;have:=HPL.out;simp only[List.length_append,List.length_cons,List.length_nil,aD];omega) (cK.out.size)).mono ?_;rintro e w5 ⟨rfl,h5,aM⟩;rw[aC] at h5;replace jO:=hid h5;replace cK:=hid (cK.out.trans aM);clear h5 aM;have c14:=(uF.out.below cK.out).cell (i:=14) rfl;go_wp2_with fail;clear c14
    go_meet
    case rel=>exact⟨hid (by rw[HT.out];simpa using jO.out),cK⟩
   |true=>
    go_wp2_with fail;refine(cO _ _ _ _ (aA [47,47]) jO.out (by have:=HZ.out.1;have:=HZ.out.2.1;have:=HZ.out.2.2;simp only[List.length_append,List.length_cons,List.length_nil,aD];omega) (cK.out.size)).mono ?_;rintro e w5 ⟨rfl,h5,aM⟩;rw[aC] at h5;replace jO:=hid h5;replace cK:=hid (cK.out.trans aM);clear h5 aM;go_wp2_with (refine fF rfl (uF.out.below cK.out) jP rfl rfl ?_);refine(Qm.out HK.out _).mono ?_;rintro e w5 ⟨rfl,aM⟩;replace cK:=aR cK aM;replace jO:=hid (rX.below jO.out aM);clear aM;go_wp2_with fail;refine(cO _ _ _ _ (aA wh) jO.out (by have:=HZ.out.1;have:=HZ.out.2.1;have:=HZ.out.2.2;have:=Z7.out HK.out;have:=Z8.out HK.out;have:=HPL.out;simp only[List.length_append,List.length_cons,List.length_nil,aD];omega) (cK.out.size)).mono ?_;rintro e w5 ⟨rfl,h5,aM⟩;rw[aC] at h5;replace jO:=hid h5;replace cK:=hid (cK.out.trans aM);clear h5 aM;go_wp2_with (refine fO rfl 32 _ rfl _ 3 rfl (uF.out.below cK.out) [.int .i64 (k:Int),.string (aA name),.int .u32 (four:Int),.int .u16 (x0:Int),.int .u16 (x1:Int),.int .u16 (x2:Int),.int .u16 (x3:Int),.int .u16 (x4:Int),.int .u16 (x5:Int),.int .u16 (x6:Int),.int .u16 (x7:Int)] rfl _ Tryz.underlying32 rfl (by kernel_rfl) ?_);refine(UN.out _ (HW1.out.step cK.out)).mono ?_;rintro e w5 ⟨rfl,aM⟩;replace cK:=aR cK aM;replace jO:=hid (rX.below jO.out aM);clear aM;go_wp2_with fail;refine(cO _ _ _ _ (aA ho) jO.out (by have:=HZ.out.1;have:=HZ.out.2.1;have:=HZ.out.2.2;have:=Z7.out HK.out;have:=Z8.out HK.out;have:=HPL.out;simp only[List.length_append,List.length_cons,List.length_nil,aD];omega) (cK.out.size)).mono ?_;rintro e w5 ⟨rfl,h5,aM⟩;rw[aC] at h5;replace jO:=hid h5;replace cK:=hid (cK.out.trans aM);clear h5 aM;have c14:=(uF.out.below cK.out).cell (i:=14) rfl;go_wp2_with fail;clear c14;refine(iP _ _ _ _ 58 rfl jO.out (by have:=HZ.out.1;have:=HZ.out.2.1;have:=HZ.out.2.2;have:=Z7.out HK.out;have:=Z8.out HK.out;have:=HPL.out;simp only[List.length_append,List.length_cons,List.length_nil,aD];omega) (cK.out.size)).mono ?_;rintro e w5 ⟨rfl,h5,aM⟩;replace jO:=hid h5;replace cK:=hid (cK.out.trans aM);clear h5 aM;have c15:=(uF.out.below cK.out).cell (i:=15) rfl;go_wp2_with fail;clear c15;refine(NG.out _ (HW1.out.step cK.out)).mono ?_;rintro e w5 ⟨rfl,aM⟩;replace cK:=aR cK aM;replace jO:=hid (rX.below jO.out aM);clear aM;go_wp2_with fail;refine(cO _ _ _ _ (aA dg) jO.out (by have:=HZ.out.1;have:=HZ.out.2.1;have:=HZ.out.2.2;have:=Z7.out HK.out;have:=Z8.out HK.out;have:=HPL.out;simp only[List.length_append,List.length_cons,List.length_nil,aD];omega) (cK.out.size)).mono ?_;rintro e w5 ⟨rfl,h5,aM⟩;rw[aC] at h5;replace jO:=hid h5;replace cK:=hid (cK.out.trans aM);clear h5 aM;go_wp2_with fail
    go_meet
    case rel=>exact⟨hid (by rw[HT.out];simpa using jO.out),cK⟩
 case rest=>
  obtain⟨jO,cK⟩:=hcut;clear HA HO ZZ fW Qm Z7 Z8 NG UN HPL HKB;go_wp2_with (refine fF rfl (uF.out.below cK.out) jP rfl rfl ?_);refine(Z9.out _ (HV1.out.below cK.out)).mono ?_;rintro e w5 ⟨rfl,aM⟩;replace cK:=aR cK aM;replace jO:=hid (rX.below jO.out aM);clear aM;go_wp2_with fail;refine(cO _ _ _ _ (aA pt) jO.out (by have:=HZ.out.1;have:=HZ.out.2.1;have:=HZ.out.2.2;simp only[List.length_append,List.length_cons,List.length_nil,aD];omega) (cK.out.size)).mono ?_;rintro e w5 ⟨rfl,h5,aM⟩;rw[aC] at h5;replace jO:=hid h5;replace cK:=hid (cK.out.trans aM);clear h5 aM;have c19:=(uF.out.below cK.out).cell (i:=19) rfl;go_upto_if 50 with fail
  clear c19;go_cut [] (fun wc=>Hid (rX wc w1.heap.size gb (sch++[58]++at_++pt++(if hq then[63]++qu else[])))∧Hid (Below w1.heap.size w1 wc));case first=>
   cases hq with
   |false=>
    go_wp2_with fail
    go_meet
    case rel=>exact⟨hid (by simpa using jO.out),cK⟩
   |true=>
    have HQ:=hid (HZQ.out rfl);clear HZQ;go_wp2_with fail;refine(iP _ _ _ _ 63 rfl jO.out (by have:=HZ.out.1;have:=HZ.out.2.1;have:=HZ.out.2.2;simp only[List.length_append,List.length_cons,List.length_nil,aD];omega) (cK.out.size)).mono ?_;rintro e w5 ⟨rfl,h5,aM⟩;replace jO:=hid h5;replace cK:=hid (cK.out.trans aM);clear h5 aM;have c20:=(uF.out.below cK.out).cell (i:=20) rfl;go_wp2_with fail;clear c20;refine(cO _ _ _ _ (aA qu) jO.out (by have:=HZ.out.1;have:=HZ.out.2.1;have:=HZ.out.2.2;have:=HQ.out;simp only[List.length_append,List.length_cons,List.length_nil,aD];omega) (cK.out.size)).mono ?_;rintro e w5 ⟨rfl,h5,aM⟩;rw[aC] at h5;replace jO:=hid h5;replace cK:=hid (cK.out.trans aM);clear h5 aM;go_wp2_with fail
    go_meet
    case rel=>exact⟨hid (by simpa using jO.out),cK⟩
  case rest=>
   obtain⟨jO,cK⟩:=hcut;have HZ2:Hid ((if hq=true then[63]++qu else[]).length≤500000001):=hid (by
    cases hq with
    |false=>simp
    |true=>have:=HZQ.out rfl;simp;omega)
   clear HZQ Z9;generalize (if hq=true then[63]++qu else[])=qt at*;cases hf with
   |false=>have c21:=(uF.out.below cK.out).cell (i:=21) rfl;go_wp2_with fail;refine(eU _ _ _ _ jO.out cK.out.size).mono ?_;rintro e w5 ⟨rfl,aM⟩;have fG:=hid (HB.out.trans ((cK.out.trans aM).mono HB.out.size));clear aM;go_wp2_with fail;go_ret;exact⟨LD (by rw[XF.out];show aA _=aA _;congr 1;simp),fG.out⟩
   |true=>
    have QO:=hid (HZF.out rfl);clear HZF;cases frag with
    |false=>have c21:=(uF.out.below cK.out).cell (i:=21) rfl;go_wp2_with fail;refine(eU _ _ _ _ jO.out cK.out.size).mono ?_;rintro e w5 ⟨rfl,aM⟩;have fG:=hid (HB.out.trans ((cK.out.trans aM).mono HB.out.size));clear aM;go_wp2_with fail;go_ret;exact⟨LD (by rw[XF.out];show aA _=aA _;congr 1;simp),fG.out⟩
    |true=>have c21:=(uF.out.below cK.out).cell (i:=21) rfl;go_wp2_with fail;clear c21;refine(iP _ _ _ _ 35 rfl jO.out (by have:=HZ2.out;have:=HZ.out.1;have:=HZ.out.2.1;have:=HZ.out.2.2;simp only[List.length_append,List.length_cons,List.length_nil,aD];omega) (cK.out.size)).mono ?_;rintro e w5 ⟨rfl,h5,aM⟩;replace jO:=hid h5;replace cK:=hid (cK.out.trans aM);clear h5 aM;have c22:=(uF.out.below cK.out).cell (i:=22) rfl;go_wp2_with fail;clear c22;refine(cO _ _ _ _ (aA fr) jO.out (by have:=HZ2.out;have:=QO.out;have:=HZ.out.1;have:=HZ.out.2.1;have:=HZ.out.2.2;simp only[List.length_append,List.length_cons,List.length_nil,aD];omega) (cK.out.size)).mono ?_;rintro e w5 ⟨rfl,h5,aM⟩;rw[aC] at h5;replace jO:=hid h5;replace cK:=hid (cK.out.trans aM);clear h5 aM;go_wp2_with fail;refine(eU _ _ _ _ jO.out cK.out.size).mono ?_;rintro e w5 ⟨rfl,aM⟩;have fG:=hid (HB.out.trans ((cK.out.trans aM).mono HB.out.size));clear aM;go_wp2_with fail;go_ret;exact⟨LD (by rw[XF.out];show aA _=aA _;congr 1;simp),fG.out⟩
theorem W9:BC 23 uH:=⟨rfl,by kernel_rfl⟩
theorem RdV.mono {o:Option bD} {w w0 w':World} {e:Ending} (h:RdV o w e w') (hb:Below w0.heap.size w0 w):RdV o w0 e w':=by obtain⟨h1,arr,rfl,h3⟩:=h;exact⟨hb.trans (h1.mono hb.size),arr,rfl,h3.lD fun x hx=>Nat.lt_of_lt_of_le hx hb.size⟩
theorem Nl (q:UInt8) (s:List UInt8):(bM q s).1.length≤s.length∧(bM q s).2.1.length≤s.length:=by
 have:=sN q s;refine⟨by omega,?_⟩;unfold bM;split;·simp only[List.length_drop];have:=bW (· !=q) s;omega
 ·simp
theorem Jv {s:List UInt8} (hs:s.length≤5000000):mS (partsOf s):=by
 have h0:=Di s;have h1:=Nl 35 (qH s);have h2:=Nl 63 (bM 35 (qH s)).1;have h3:=Nl 58 (bM 63 (bM 35 (qH s)).1).1;unfold partsOf splitN;simp only;split;·exact⟨by simp only[gN,List.length_map];omega,by simp only;omega,by simp only;omega,by simp only;omega⟩
 ·exact⟨by simp,by simp only;omega,by simp only;omega,by simp only;omega⟩
theorem BD (s:List UInt8) (hs:s.length≤5000000) (w:World) (hW:Laid w):Calls Tryz.prog 11 #[.string (aA s)] w fun e w'=>RdV (iK J0 (partsOf s)) w e w':=by
 have HW:=hid hW;have oN:=Di s;have QP:=hid (fun W=>FN s W (by omega));have CN:=hid (fun W hW=>F1 (qH s) W hW (by omega));have GI:=hid (fun W hW=>Ju (cT.zero (fun _=>False) W) (by simp) (Jv hs) (w:=W) hW);have fW:Hid (iK J0 (partsOf s)=if(partsOf s).hasScheme then kS J0 {} (partsOf s) else none):=hid rfl;have e0:splitN (qH s)=partsOf s:=rfl;rw[e0] at CN;generalize iK J0 (partsOf s)=R at*;generalize aA (qH s)=s2 at*;generalize partsOf s=P at*;generalize kS J0 {} P=JO at*;generalize aA s=s' at*;obtain⟨abO,sch,rest,hq,qu,hf,fr⟩:=P;simp only[SN,fK] at CN GI fW;clear hW oN e0 hs;have HB:Hid (Below w.heap.size w w):=hid (Below.refl _ _);cases abO;have HR:Hid (R=none):=hid (fW.out.trans (if_neg (by simp)));clear fW GI;have tg:=Tg.k 0;rotate_left;have HR:Hid (R=JO):=hid (fW.out.trans (if_pos rfl));clear fW;have tg:=Tg.k 1;all_goals
  go_enter Tryz.func11,Tryz.ntmps11;go_wp2_with (refine eX rfl (aO _) ?_;intro gR w2 bA hN;have Gc:=jU HB hN;replace HB:=aR HB hN.out.2.1;clear hN);refine(QP.out _).mono ?_;rintro e w5 ⟨rfl,aM⟩;replace bA:=bA.below aM;replace HB:=aR HB aM;clear aM;go_wp2_with fail;refine(CN.out _ (HW.out.below HB.out HW.out.size)).mono ?_;rintro e w5 ⟨rfl,aM⟩;replace bA:=bA.below aM;replace HB:=aR HB aM;clear aM;go_wp2_with (first|(refine eX rfl (Bv _) ?_;intro gP w2 aK hN;have aaA:=fU bA hN;have UM:=jU HB hN;replace bA:=bA.below hN.out.2.1;replace HB:=aR HB hN.out.2.1;clear hN)|(refine lU rfl aK rfl (by kernel_rfl) ?_;intro w1 aH aB;replace bA:=bA.other aB (Nat.ne_of_lt aaA);replace HB:=bU HB aB.1 UM;replace aK:=aH;clear aB aH;have c0:=aK.cell (i:=0) rfl)|(refine aG rfl 34 _ rfl _ (.agg uH) (by kernel_rfl) ?_)|(refine vR rfl bA W9 jP rfl rfl ?_;intro w1 aH aB;replace aK:=aK.other aB (Nat.ne_of_gt aaA);replace HB:=bU HB aB.1 Gc;replace bA:=aH;clear aB aH)|(refine fF rfl aK CO rfl rfl ?_));first
  |have:Tg 1:=tg;have HZR:=hid bA.lt;refine(GI.out _ (HW.out.below HB.out HW.out.size)).mono ?_;rintro e w5 ⟨aM,arr,rfl,h5⟩;have HU:=hid h5;have yU:=hid HB.out.size;replace bA:=bA.below aM;replace aK:=aK.below aM;replace HB:=aR HB aM;clear h5 aM;go_wp2_with (refine vR rfl bA HU.out.dH jP rfl rfl ?_;intro w1 aH aB;replace aK:=aK.other aB (Nat.ne_of_gt aaA);replace HU:=hid (HU.out.save (bL.of aB) HZR.out);replace HB:=bU HB aB.1 Gc;replace bA:=aH;clear aB aH);refine dT rfl 23 _ rfl rfl bA Tryz.underlying34 rfl HU.out.dH.1 (by kernel_rfl) rfl ?_;rw[HR.out];exact⟨HB.out,_,rfl,HU.out.lD fun x hx=>Nat.lt_of_lt_of_le hx yU.out⟩
  |refine dT rfl 23 _ rfl rfl bA Tryz.underlying34 rfl rfl (by kernel_rfl) rfl ?_;rw[HR.out];exact⟨HB.out,_,rfl,cT.zero _ _⟩
def CX (u:bD):Bool:=match iK J0 (partsOf (aQ J0 u true)) with
 |none=>false
 |some v=>Qi v u
theorem Jw {u:bD} (hu:mZ u):u.path.length≤(aQ J0 u true).length:=by
 rw[Gb];cases ho:u.opaq with
 |true=>rw[hu.path ho];simp
 |false=>
  have h:u.path.length≤(lZ u).length:=by
   unfold lZ;rw[ho];simp only[Bool.false_eq_true,if_false];generalize u.path=L;induction L with
   |nil=>simp
   |cons p L ih=>rw[List.flatMap_cons,List.length_append,List.length_cons,List.length_cons];omega
  omega
theorem Qn {s:List UInt8} {v:bD} (h:iK J0 (partsOf s)=some v):dL (aQ J0 v true)≤5*s.length+54:=by
 unfold iK at h;split at h
 ·have h1:=T4 ZY h (fun e=>by cases e);have h2:=Fz s;have h3:dL (aQ J0 {} true)=1:=by decide+kernel
  omega
 ·cases h
theorem Ty {s:List UInt8} (hs:s.length≤5000000) {v:bD} (h:iK J0 (partsOf s)=some v):mZ v:=by
 unfold iK at h;split at h;·exact W3 mZ.zero (Jv hs) h
 ·cases h
theorem Ac {N:Nat→Prop} {w:World} {arr:Array Value} {u:bD} (hb:cT N w arr u) (frag:Bool) (hlen:(aQ J0 u true).length≤500000000) (hW:Laid w):
 Calls Tryz.prog 10 #[.agg arr,.bool frag] w fun e w'=>e= .returned (.string (aA (aQ J0 u frag)))∧Below w.heap.size w w':=by
 obtain⟨pv,rfl,hp,hu⟩:=hb;exact Nk u pv frag hu hlen (by have:=Jw hu;omega) w hW hp.read
theorem Qo {N0:Nat→Prop} {arr:Array Value} {u:bD} {w:World} (hb:cT N0 w arr u) (hlen:(aQ J0 u true).length≤5000000) (hW:Laid w):Calls Tryz.prog 13 #[.agg arr] w fun e w'=>e= .returned (.bool (CX u))∧Below w.heap.size w w':=by
 have HW:=hid hW;have lE:=hid hb;have Ts:=hid hb.dH;have DO:=hid (fun W (h1:cT N0 W arr u) hW=>Ac h1 true (by omega) (w:=W) hW);have ZN:=hid (fun W hW=>BD (aQ J0 u true) hlen W hW);have Pd:u.path.length≤1000000000:=by obtain⟨pv,rfl,hp,hu⟩:=hb;have:=Jw hu;omega
 have Us:∀v,iK J0 (partsOf (aQ J0 u true))=some v→v.path.length≤1000000000:=fun v hv=>by have h1:=Qn hv;have h2:=Nh (Ty hlen hv);omega
 have HS:=hid (fun(v:bD) M N W ar (hv:iK J0 (partsOf (aQ J0 u true))=some v) (h1:cT M W ar v) (h2:cT N W arr u)=>W5 h1 h2 (Us v hv) Pd);have HR:Hid (CX u=match iK J0 (partsOf (aQ J0 u true)) with|none=>false|some v=>Qi v u):=hid rfl;generalize CX u=R at*;generalize aA (aQ J0 u true)=s at*;generalize iK J0 (partsOf (aQ J0 u true))=O at*;clear hW hb Pd Us hlen;have HB:Hid (Below w.heap.size w w):=hid (Below.refl _ _);go_enter Tryz.func13,Tryz.ntmps13;go_wp2_with (first|(refine jG rfl rfl ?_;intro gB w2 aE hN;have Ky:=jU HB hN;replace HB:=aR HB hN.out.2.1;clear hN)|(refine fF rfl aE jP Ts.out.1 rfl ?_));refine(DO.out _ (lE.out.below HB.out) (HW.out.below HB.out HW.out.size)).mono ?_;rintro e w5 ⟨rfl,aM⟩;replace aE:=aE.below aM;replace HB:=aR HB aM;clear aM;go_wp2_with fail;refine(ZN.out _ (HW.out.below HB.out HW.out.size)).mono ?_;rintro e w5 ⟨aM,ar,rfl,h5⟩;have HUV:=hid h5;replace aE:=aE.below aM;replace HB:=aR HB aM;clear aM h5;cases O with
 |none=>have HF:Hid (R=false):=hid HR.out;simp only[Option.getD_none,Option.isSome_none] at HUV⊢;clear HR HS;go_wp2_with (first|(refine eX rfl (aO _) ?_;intro gV w2 dA hN;have aaB:=fU aE hN;have Tz:=jU HB hN;replace aE:=aE.below hN.out.2.1;replace HB:=aR HB hN.out.2.1;have iI:=hid hN.out.2.1;have lV5:=Nat.le_of_eq hN.out.1.symm;clear hN)|(refine vR rfl dA HUV.out.dH jP rfl rfl ?_;intro w1 aH aB;replace aE:=aE.other aB (Nat.ne_of_lt aaB);replace iI:=bU iI aB.1 lV5;replace HB:=bU HB aB.1 Tz;replace dA:=aH;clear aB aH)|(refine jQ rfl 34 _ rfl _ 23 rfl aE _ Tryz.underlying34 rfl Ts.out.1 (by kernel_rfl) ?_)|(refine jQ rfl 34 _ rfl _ 23 rfl dA _ Tryz.underlying34 rfl HUV.out.dH.1 (by kernel_rfl) ?_));go_ret;exact⟨aZ HF.out.symm,HB.out⟩
 |some v=>have HF:Hid (R=Qi v u):=hid HR.out;simp only[Option.getD_some,Option.isSome_some] at HUV⊢;clear HR;go_wp2_with (first|(refine eX rfl (aO _) ?_;intro gV w2 dA hN;have aaB:=fU aE hN;have Tz:=jU HB hN;replace aE:=aE.below hN.out.2.1;replace HB:=aR HB hN.out.2.1;have iI:=hid hN.out.2.1;have lV5:=Nat.le_of_eq hN.out.1.symm;clear hN)|(refine vR rfl dA HUV.out.dH jP rfl rfl ?_;intro w1 aH aB;replace aE:=aE.other aB (Nat.ne_of_lt aaB);replace iI:=bU iI aB.1 lV5;replace HB:=bU HB aB.1 Tz;replace dA:=aH;clear aB aH)|(refine jQ rfl 34 _ rfl _ 23 rfl aE _ Tryz.underlying34 rfl Ts.out.1 (by kernel_rfl) ?_)|(refine jQ rfl 34 _ rfl _ 23 rfl dA _ Tryz.underlying34 rfl HUV.out.dH.1 (by kernel_rfl) ?_));refine(HS.out v _ _ _ _ rfl (HUV.out.below iI.out) (lE.out.below HB.out)).mono ?_;rintro e w6 ⟨rfl,fH⟩;have Ef:=aR HB fH;clear fH;go_wp2_with fail;go_ret;exact⟨aZ HF.out.symm,Ef.out⟩
end Go.Proofs.YtmgmclkplepapaaGreatDoor
