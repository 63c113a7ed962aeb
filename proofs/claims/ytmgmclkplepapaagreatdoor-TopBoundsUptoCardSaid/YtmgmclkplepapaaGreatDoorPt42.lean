/- Part of the proof of TopBoundsUptoCardSaid. Conditions: none beyond the statement. -/
import Derived.Test.YtmgmclkplepapaaGreatDoorPt41
set_option linter.all false
set_option maxRecDepth 100000
set_option maxHeartbeats 64000000
namespace Go.Proofs.YtmgmclkplepapaaGreatDoor
open Go.RowKit
theorem Tu (gA gB:Nat) (ZC:Array Value) (b:Value) (w:World) (hA:Row w gA 34 ZC) (h8:ZC.size=23) (hB:Row w gB 4 #[b]) (eG:gA≠gB) (PA:List PanicEntry):
 CallsD Tryz.prog 57 #[.pointer (some ⟨gA,0,none⟩),.pointer (some ⟨gB,0,none⟩)] (.panicking ({v:= .iface 170 (.agg #[]),recovered:=false}::PA)) w fun e u' w'=>
  e= .returned (.tuple #[])∧u'= .panicking ({v:= .iface 170 (.agg #[]),recovered:=true}::PA)∧Row w' gA 34 uI∧Row w' gB 4 #[.bool false]∧Below (min gA gB) w w':=by
 refine callsD_of_wpS Tryz.func57 rfl fun ZD cs hu=>?_;apply wpS_seq;apply wpS_region;simp[wpOpsS,go_sem,recoverD,hu,Tryz.ntmps57,Exit.thenS];refine wpS_cond (t:=true) (by simp[Act.eval,Array.replicate]) ?_;simp only[if_true];apply wpS_of_wp;apply wp_region_lit;refine aG rfl 34 _ rfl w (.agg uI) (by kernel_rfl) ?_;refine nH rfl 34 _ _ rfl gA uI rfl rfl hA (by rw[h8];rfl) (by kernel_rfl) (by kernel_rfl) fun w1 hA1 aB=>?_;have hB1:=hB.other aB (Ne.symm eG);refine dS rfl 4 _ _ rfl gB 0 (.bool false) rfl rfl rfl hB1 rfl (by kernel_rfl) fun w2 hB2 JN=>?_;have hA2:=hA1.other JN eG;have lA:Below (min gA gB) w w2:=(aB.1.mono (Nat.min_le_left _ _)).trans (JN.1.mono (Nat.min_le_right _ _));apply wpList_nil;simp[bodyPostS,results,Tryz.results57,Act.put];exact⟨hA2,hB2,lA⟩
theorem W7 (gA gB:Nat) (w:World):
 CallsD Tryz.prog 57 #[.pointer (some ⟨gA,0,none⟩),.pointer (some ⟨gB,0,none⟩)] .returning w fun e u' w'=>e= .returned (.tuple #[])∧u'= .returning∧w'=w:=by
 refine callsD_of_wpS Tryz.func57 rfl fun ZD cs hu=>?_;apply wpS_seq;apply wpS_region;simp[wpOpsS,go_sem,recoverD,hu,Tryz.ntmps57,Exit.thenS];refine wpS_cond (t:=false) (by simp[Act.eval,Array.replicate]) ?_;simp only[Bool.false_eq_true,if_false];refine wpS_of_wp (wp_skip ?_);cases ZD;simp_all [bodyPostS,results,Tryz.results57]
theorem results31 {tmps:Array Value} {gA gB:Nat} {arr:Array Value} {b:Bool} {w:World} (h2:tmps.getD 4 undef= .pointer (some ⟨gA,0,none⟩)) (h3:tmps.getD 5 undef= .pointer (some ⟨gB,0,none⟩)) (h8:arr.size=23) (hA:Row w gA 34 arr) (hB:Row w gB 4 #[.bool b]):
 (results Tryz.f31 tmps).run Tryz.prog w= .ok (.tuple #[.agg arr,.bool b]) w:=by
 have hr:Tryz.f31.results= #[.cell 4 34,.cell 5 4]:=by kernel_rfl
 have hl:=run_loadVar_row (P:=Tryz.prog) w gA 34 34 arr (0,0) _ hA Tryz.underlying34 rfl (by rw[h8];kernel_rfl);have hc:w.cell? ⟨gB,0,none⟩=some (.bool b):=hB.cell rfl;have h2':tmps[4]?.getD undef= .pointer (some ⟨gA,0,none⟩):=by simpa using h2
 have h3':tmps[5]?.getD undef= .pointer (some ⟨gB,0,none⟩):=by simpa using h3
 have cG:(loadVar 4 ⟨gB,0,none⟩).run Tryz.prog w= .ok (.bool b) w:=by simp[loadVar,go_sem,hc]
 simp[results,hr,h2',h3',asAddr,hl,cG]
def RdV (o:Option bD) (w:World) (e:Ending) (w':World):Prop:=Below w.heap.size w w'∧∃arr,e= .returned (.tuple #[.agg arr,.bool o.isSome])∧cT (fun b=>b < w.heap.size) w' arr (o.getD {})
theorem Jv {N0:Nat→Prop} {arr:Array Value} {b:bD} {p:cU} {w:World} (hb:cT N0 w arr b) (lA:b.path.length≤10000000) (hp:mT p) (hW:Laid w):Calls Tryz.prog 31 #[.agg arr,.agg (fK p)] w fun e w'=>RdV (kU J0 b p) w e w':=by
 have hmf:∀(fn:Fn) (first cap:Array Value) (w:World),(Instr.makeFunc fn first cap).run Tryz.prog w= .ok (.func fn first cap) w:=fun _ _ _ _=>rfl;have HW:=hid hW;have lF:=hid hb;have Tt:=hid hb.dH;have HJ:=hid (fun W (h1:cT N0 W arr b) hW=>Ts h1 lA hp (w:=W) hW);generalize kU J0 b p=O at*;simp only[fK] at HJ⊢;clear hW hb lA hp;have HB:Hid (Below w.heap.size w w):=hid (Below.refl _ _)
 go_enter_defers Tryz.func31,Tryz.ntmps31
 go_wp2_with (first|(refine jH (d:=2) rfl rfl ?_;intro gB w2 aE hN;have Kz:=jV HB hN;replace lF:=hid (lF.out.below hN.out.2.1);replace HB:=aR HB hN.out.2.1;clear hN)|(refine jH (d:=3) rfl rfl ?_;intro gP w2 aK hN;have nB:=fU aE hN;have UN:=jV HB hN;replace aE:=aE.below hN.out.2.1;replace lF:=hid (lF.out.below hN.out.2.1);replace HB:=aR HB hN.out.2.1;clear hN)|(refine eX rfl (aO _) ?_;intro gA w2 cP hN;have eF:=fU aE hN;have dY:=fU aK hN;have GU:=jV HB hN;replace aE:=aE.below hN.out.2.1;replace aK:=aK.below hN.out.2.1;replace lF:=hid (lF.out.below hN.out.2.1);replace HB:=aR HB hN.out.2.1;clear hN)|(refine eX rfl (mP _) ?_;intro gC w2 fY hN;have Z5:=fU aE hN;have alN:=fU aK hN;have Z6:=fU cP hN;have lgC:=jV HB hN;replace aE:=aE.below hN.out.2.1;replace aK:=aK.below hN.out.2.1;replace cP:=cP.below hN.out.2.1;replace lF:=hid (lF.out.below hN.out.2.1);replace HB:=aR HB hN.out.2.1;clear hN)|(refine fF rfl aE jQ Tt.out.1 rfl ?_)|(refine fF rfl aK CP rfl rfl ?_));have QZ:=hid (And.intro cP.lt fY.lt);have yV:=hid HB.out.size;refine(HJ.out _ lF.out (HW.out.below HB.out HW.out.size)).mono ?_;rintro e w5 ⟨aM,h5⟩;replace aE:=aE.below aM;replace aK:=aK.below aM;replace cP:=cP.below aM;replace fY:=fY.below aM;replace lF:=hid (lF.out.below aM);replace HB:=aR HB aM;clear aM lF;cases O with
 |none=>simp only at h5;subst h5;unfold Ab;go_wp2_with fail;refine leaves_cons (f:=57) (args:= #[.pointer (some ⟨gA,0,none⟩),.pointer (some ⟨gC,0,none⟩)]) (by simp) (by simp[go_sem]) ?_;refine(Tu gA gC _ _ _ cP rfl fY (Nat.ne_of_lt Z6) []).mono ?_;rintro e u' w9 ⟨rfl,rfl,hA9,hB9,sK⟩;exact⟨_,results31 rfl rfl rfl hA9 hB9,HB.out.trans (sK.mono (by omega)),_,rfl,cT.zero _ _⟩
 |some v=>obtain⟨ar,rfl,yN⟩:=h5;have lX:=hid yN;clear yN;go_wp2_with (first|(refine vS rfl cP lX.out.dH jQ rfl rfl ?_;intro w1 aH aB;replace aE:=aE.other aB (Nat.ne_of_lt eF);replace aK:=aK.other aB (Nat.ne_of_lt dY);replace fY:=fY.other aB (Nat.ne_of_gt Z6);replace lX:=hid (lX.out.save (bL.of aB) QZ.out.1);replace HB:=bU HB aB.1 GU;replace cP:=aH;clear aB aH)|(refine oU 0 rfl fY rfl I4 ?_;intro w1 aH aB;replace aE:=aE.other aB (Nat.ne_of_lt Z5);replace aK:=aK.other aB (Nat.ne_of_lt alN);replace cP:=cP.other aB (Nat.ne_of_lt Z6);replace lX:=hid (lX.out.save (bL.of aB) QZ.out.2);replace HB:=bU HB aB.1 lgC;replace fY:=aH;clear aB aH;simp[Act.eval] at fY));refine leaves_cons (f:=57) (args:= #[.pointer (some ⟨gA,0,none⟩),.pointer (some ⟨gC,0,none⟩)]) (by simp) (by simp[go_sem]) ?_;refine(W7 gA gC _).mono ?_;rintro e u' w9 ⟨rfl,rfl,rfl⟩;exact⟨_,results31 rfl rfl lX.out.dH.1 cP fY,HB.out,_,rfl,lX.out.lE fun x hx=>Nat.lt_of_lt_of_le hx yV.out⟩
theorem rY.row {w:World} {B b:Nat} (h:Row w b 65 #[.pointer none,.slice none 0 0]) (hB:B≤b):rY w B b []:=
 Or.inl ⟨hB,.slice none 0 0,h,World.ownsRow_nil _ _ _ _,by simp[Value.ownBlock]⟩
theorem LD (w:World) (uY:Value):(Instr.alloc 65 true uY).run Tryz.prog w= .ok (.pointer (some ⟨w.heap.size,0,none⟩)) (w.alloc (.cells #[.pointer none,.slice none 0 0] 65)):=by kernel_rfl
def aiK (a b:Bool) (us ps:ByteArray):ByteArray:=if b then(if a then⟨#[]⟩ else us++⟨#[64]⟩) else us++⟨#[58]⟩++ps++⟨#[64]⟩
theorem aiL (u:bD) {a b:Bool} (ha:(aA u.user).toList.isEmpty=a) (hb:(aA u.pass).toList.isEmpty=b):aiK a b (aA u.user) (aA u.pass)=aA (xN u):=by
 rw[cC] at ha hb;subst ha hb;unfold xN aiK;cases u.user with
 |nil=>cases u.pass with
  |nil=>rfl
  |cons c d=>show aA []++aA [58]++aA (c::d)++aA [64]=aA ([]++[58]++(c::d)++[64]);rw[iM,iM,iM]
 |cons a b=>cases u.pass with
  |nil=>show aA (a::b)++aA [64]=aA ((a::b)++[64]);rw[iM]
  |cons c d=>show aA (a::b)++aA [58]++aA (c::d)++aA [64]=aA ((a::b)++[58]++(c::d)++[64]);rw[iM,iM,iM]
theorem LF {a b:ByteArray} (h:a=b):Ending.returned (.string a)= .returned (.string b):=by rw[h]
theorem Tv (u:bD) (pv:Value) (h8:u.host.six.length=8) (hu:u.user.length≤1000000000) (hp:u.pass.length≤1000000000) (w:World):Calls Tryz.prog 24 #[.agg (dP pv u)] w fun e w'=>e= .returned (.string (aA (xN u)))∧Below w.heap.size w w':=by
 have HF:∀a b,(aA u.user).toList.isEmpty=a→(aA u.pass).toList.isEmpty=b→Hid (aA (xN u)=aiK a b (aA u.user) (aA u.pass)):=fun a b ha hb=>hid (aiL u ha hb).symm;generalize aA (xN u)=R at*;obtain⟨sch,us,ps,⟨k,name,four,six⟩,hpt,po,oq,fl,path,hq,qu,hf,fr⟩:=u;simp only at h8 hu hp HF;obtain⟨x0,x1,x2,x3,x4,x5,x6,x7,rfl⟩:=eight h8;simp only[dP,eY,List.map,List.cons_append,List.nil_append];have z1:(aA us).size≤1000000000:=by rw[aD];exact hu
 have z2:(aA ps).size≤1000000000:=by rw[aD];exact hp
 generalize aA us=us at*;generalize aA ps=ps at*;have z3:(us++(⟨#[58]⟩:ByteArray)).size≤1000000001:=by rw[ByteArray.size_append];show _+1≤_;omega
 have z4:(us++(⟨#[58]⟩:ByteArray)++ps).size≤2000000001:=by rw[ByteArray.size_append];omega
 clear h8 hu hp;cases ha:us.toList.isEmpty<;>cases hb:ps.toList.isEmpty;all_goals
  have HR:=HF _ _ ha hb;clear HF;go_enter Tryz.func24,Tryz.ntmps24;go_wp2_with (refine jH rfl rfl ?_;intro g w1 jL hA;have c1:=jL.cell (i:=1) rfl;have c2:=jL.cell (i:=2) rfl);go_ret;exact⟨LF (by rw[HR.out];rfl),hA.out.2.1⟩
def wR (L:List (List UInt8)):List UInt8:=L.flatMap fun p=>47::p
theorem Tw {L:List (List UInt8)} {k:Nat} (h:k < L.length):wR (L.take (k+1))=wR (L.take k)++[47]++L[k]:=by unfold wR;rw[List.take_succ_eq_append_getElem h,List.flatMap_append];simp
theorem Ql (L:List (List UInt8)) (k:Nat):(wR (L.take k)).length≤(wR L).length:=by
 unfold wR;conv=>rhs;rw[←List.take_append_drop k L,List.flatMap_append,List.length_append]
 omega
theorem Qm (u:bD) (pv:Value) (h8:u.host.six.length=8) (hlen:(mA u).length≤1000000000) (hn:u.path.length≤1000000000) (w:World) (hv:bT w pv (u.path.map aA)):Calls Tryz.prog 27 #[.agg (dP pv u)] w fun e w'=>e= .returned (.string (aA (mA u)))∧Below w.heap.size w w':=by
 have HF:Hid (mA u=if u.opaq then u.flat else wR u.path):=hid rfl;obtain⟨A,c,mD,_⟩:=hv.len;rw[List.length_map] at mD;subst mD;have HV:=hid hv;generalize mA u=R at*;obtain⟨sch,us,ps,⟨k,name,four,six⟩,hpt,po,oq,fl,path,hq,qu,hf,fr⟩:=u;simp only at h8 hn HF HV;obtain⟨x0,x1,x2,x3,x4,x5,x6,x7,rfl⟩:=eight h8;simp only[dP,eY,List.map,List.cons_append,List.nil_append];clear hv h8;cases oq with
 |true=>go_enter Tryz.func27,Tryz.ntmps27;go_wp2_with (refine jH rfl rfl ?_;intro g w1 jL hA;have c6:=jL.cell (i:=16) rfl;have c7:=jL.cell (i:=17) rfl);go_ret;exact⟨LF (by rw[HF.out];rfl),hA.out.2.1⟩
 |false=>
  have HR:Hid (R=wR path):=hid (HF.out.trans (if_neg (by simp)));have iK:(wR path).length≤1000000000:=by rw[←HR.out];exact hlen
  have aoG:=hid iK;clear HF hlen iK;go_enter Tryz.func27,Tryz.ntmps27;go_wp2_with (first|(refine jH rfl rfl ?_;intro g w1 jL hA;have c6:=jL.cell (i:=16) rfl;have c8:=jL.cell (i:=18) rfl;have eN:=hA.out.2.1;have HLT:=hid jL.lt;have HB:=hid eN;have HV1:=hid (HV.out.below eN);clear hA eN HV)|(refine eX rfl (LD _) ?_;intro gb w2 Ks hN;have jP:=hid (rY.row Ks (Nat.le_of_eq hN.out.1.symm));replace jL:=jL.below hN.out.2.1;have cK:=hid hN.out.2.1;have c8:=jL.cell (i:=18) rfl;clear hN Ks));go_loopw [13] (fun i wr=>∃k:Nat,k≤path.length∧i= .int .i64 (k:Int)∧Hid (rY wr w1.heap.size gb (wR (path.take k)))∧Hid (Below w1.heap.size w1 wr)) (fun i _=>path.length - (intOf i).toNat);case atStart=>exact⟨0,Nat.zero_le _,rfl,jP,cK⟩
  case round=>
   clear jP cK c8 c6 jL;obtain⟨k,hk,rfl,jP,cK⟩:=hrel;have iW:=cK.out.size;by_cases bC:k < path.length
   ·have XO:k < (path.map aA).length:=by simpa using bC
    obtain⟨gp,off,rfl,hc⟩:=(HV1.out.below cK.out).cellAt XO;rw[List.getElem_map] at hc;have HJ:=hid (Tw bC);have XU:=Ql path k;have Q6:=Ql path (k+1);have hj3:=aoG.out;have hj4:(wR (path.take (k+1))).length=(wR (path.take k)).length+1+path[k].length:=by rw[HJ.out,List.length_append,List.length_append];rfl
    have Kj:(wR (path.take k)).length≤1000000000:=by omega
    have Lb:(wR (path.take k)++[47]).length+(aA path[k]).size≤1000000000:=by rw[aD,List.length_append];show _+1+_≤_;omega
    have HQ1:=hid Kj;have HQ2:=hid Lb;generalize path[k]=p at*;clear XU Q6 hj3 hj4 XO Kj Lb;go_wp2_with fail;refine(iQ _ _ _ _ 47 rfl jP.out (by have:=HQ1.out;omega) iW).mono ?_;rintro e w4 ⟨rfl,h4,cG⟩;have CS:=hid h4;have fG:=hid (cK.out.trans cG);have ahO:=fG.out.size;clear h4 cG;go_wp2_with fail;refine(cO _ _ _ _ (aA p) CS.out (by have:=HQ2.out;omega) ahO).mono ?_;rintro e w5 ⟨rfl,h5,aM⟩;have IX:=hid h5;have iJ:=hid (fG.out.trans aM);clear h5 aM;go_wp2_with fail;go_roundw;case rel=>exact⟨k+1,by omega,by go_num,hid (by rw[HJ.out,←aC p];exact IX.out),iJ⟩
    case measure=>simp[intOf];omega
   ·obtain rfl:k=path.length:=by omega
    go_wp2_with fail;refine(eU _ _ _ _ jP.out iW).mono ?_;rintro e w4 ⟨rfl,cG⟩;have fG:=hid (HB.out.trans ((cK.out.trans cG).mono HB.out.size));clear cG;go_wp2_with fail;go_ret;exact⟨LF (by rw[HR.out];rfl),fG.out⟩
theorem oK (l:List UInt8):(aA l).toList=l:=by rw[ByteArray.toList_eq,aC]
theorem lY (s:List UInt8) (hs:s.length≤1000000000) (w:World):Calls Tryz.prog 75 #[.string (aA s)] w fun e w'=>e= .returned (.string (aA (s.dropWhile aI)))∧w=w':=by
 have Oq:=hid (fun c w=>mF c w);have HZ:=hid (aD s);have HD:Hid (Hid (s.dropWhile aI=(s.drop 0).dropWhile aI)):=hid (hid rfl);generalize s.dropWhile aI=R at*;go_enter Tryz.func75,Tryz.ntmps75;go_wp2_with fail;go_loopw [3] (fun i wr=>∃k:Nat,i= .int .i64 (k:Int)∧k≤s.length∧Hid (R=(s.drop k).dropWhile aI)∧w=wr) (fun i _=>s.length - (intOf i).toNat);case atStart=>exact⟨0,rfl,Nat.zero_le _,HD.out,rfl⟩
 case round=>
  clear HD;obtain⟨k,rfl,mE,HF,rfl⟩:=hrel;have MF:k≤(aA s).size:=by rw[HZ.out];exact mE
  have HRS:=hid (cX s k);by_cases bC:k < s.length
  ·obtain⟨c,hd,hg⟩:=iN bC;have jZ:k < (aA s).size:=by rw[HZ.out];exact bC
   have tM:=hg jZ;have iF:c.toNat < 256:=c.toNat_lt;have C6:=hid (Oq.out c);cases nG:aI c with
   |true=>
    have HN:Hid (R=(s.drop (k+1)).dropWhile aI):=hid (by rw[HF.out,hd,List.dropWhile_cons_of_pos nG]);rw[nG] at C6;clear hd hg HF nG HRS;go_wp2_with fail;refine(C6.out _).mono ?_;rintro e w' ⟨rfl,rfl⟩;go_wp2_with fail;go_roundw;case rel=>exact⟨k+1,by go_num,by omega,HN,by first|trivial|rfl⟩
    case measure=>simp[intOf];omega
   |false=>have HN:Hid (R=s.drop k):=hid (by rw[HF.out,hd,List.dropWhile_cons_of_neg (by simp[nG])]);rw[nG] at C6;clear hd hg nG HF;go_wp2_with fail;refine(C6.out _).mono ?_;rintro e w' ⟨rfl,rfl⟩;go_wp2_with fail;go_ret;exact⟨nN (by rw[HN.out];exact HRS.out),rfl⟩
  ·have Ao:(aA s).size≤k:=by rw[HZ.out];omega
   have HN:Hid (R=s.drop k):=hid (by rw[HF.out,List.drop_of_length_le (by omega)];rfl);clear bC HF;go_wp2_with fail;go_ret;exact⟨nN (by rw[HN.out];exact HRS.out),rfl⟩
theorem GV (s:List UInt8) (hs:s.length≤1000000000) (w:World):Calls Tryz.prog 79 #[.string (aA s)] w fun e w'=>e= .returned (.string (aA (oA s)))∧Below w.heap.size w w':=by
 have HZ:=hid (aD s);have iW:=aD s;have HF:Hid (oA s=if gQ (s.take 3)=[117,114,108] then(match(s.drop 3).dropWhile aI with
  |61::t=>t.dropWhile aI
  |_=>s) else s):=hid rfl
 generalize oA s=R at*;by_cases h3:s.length < 3;have yX:gQ (s.take 3)≠[117,114,108]:=fun e=>by have:=congrArg List.length e;simp[gQ] at this;omega
 replace HF:=hid (HF.out.trans (if_neg yX));have h3z:(aA s).size < 3:=by omega
 have hdz:decide (((aA s).size:Int) < 3)=true:=by simp;omega
 clear h3 yX iW h3z;have tg:=Tg.k 0;rotate_left;have h3z:3≤(aA s).size:=by omega
 have hdz:decide (((aA s).size:Int) < 3)=false:=by simp;omega
 have hex:=jX s 3;have hre:=cX s 3;have HLO:=hid (fun W=>sX (s.take 3) W (by rw[List.length_take];omega));have jP:=hid (fun W=>lY (s.drop 3) (by rw[List.length_drop];omega) W);have CL:=bW aI (s.drop 3);rw[List.length_drop] at CL;have hnz:(3:Int)≤((aA s).size:Int):=by omega
 generalize s.take 3=t3 at*;generalize s.drop 3=d3 at*;by_cases vB:gQ t3=[117,114,108];replace HF:=hid (HF.out.trans (if_pos vB));rw[vB] at HLO;have Lb:((aA [117,114,108]).toList==[117,114,108])=true:=by rw[oK];rfl
 have hq3:((aA [117,114,108]).toList !=[117,114,108])=false:=by rw[bne,Lb];rfl
 generalize aA [117,114,108]=lo at*;generalize d3.dropWhile aI=b at*;clear vB iW h3;cases hp:([61]:List UInt8).isPrefixOf b;have hRs:R=s:=by
  rw[HF.out];split;·rename_i t;simp at hp
  ·rfl
 replace HF:=hid hRs;have HCP:=hid (jY b [61] hp);clear hp CL hRs;have tg:=Tg.k 2;rotate_left;obtain⟨t,rfl⟩:∃t,b=61::t:=by
  cases b with
  |nil=>simp at hp
  |cons c t=>simp at hp;exact⟨t,by rw[←hp]⟩
 have HCP:=hid (jA (61::t) [61] hp);have cK:=hid (fun W=>lY t (by rw[List.length_cons] at CL;omega) W);replace HCP:Hid (∀w,Calls Tryz.prog 118 #[.string (aA (61::t)),.string (aA [61])] w fun e w'=>e= .returned (.tuple #[.string (aA t),.bool true])∧w=w'):=HCP;replace HF:Hid (R=t.dropWhile aI):=HF;generalize (61::t)=b at*;clear hp CL;have tg:=Tg.k 1;rotate_left;replace HF:=hid (HF.out.trans (if_neg vB));have Lb:((aA (gQ t3)).toList==[117,114,108])=false:=by rw[oK];simpa using vB
 have hq3:((aA (gQ t3)).toList !=[117,114,108])=true:=by rw[bne,Lb];rfl
 generalize aA (gQ t3)=lo at*;clear vB iW h3 CL jP;have tg:=Tg.k 3;all_goals
  go_enter Tryz.func79,Tryz.ntmps79;go_wp2_with fail;first
  |have:Tg 0:=tg;go_ret;exact⟨nN (congrArg aA HF.out.symm),Below.refl _ _⟩
  |refine(HLO.out _).mono ?_;rintro e w5 ⟨rfl,aM⟩;go_wp2_with fail;first
   |have:Tg 3:=tg
   |refine(jP.out _).mono ?_;rintro e w6 ⟨rfl,rfl⟩;go_wp2_with fail;refine(HCP.out _).mono ?_;rintro e w6 ⟨rfl,rfl⟩;go_wp2_with fail;first
    |have:Tg 1:=tg;refine(cK.out _).mono ?_;rintro e w6 ⟨rfl,rfl⟩;go_wp2_with fail
    |skip
   go_ret;exact⟨nN (congrArg aA HF.out.symm),aM⟩
theorem W8 {p:UInt8→Bool}:∀{l:List UInt8},(∀x∈l,p x=true)→l.takeWhile p=l:=by
 intro l;induction l with
 |nil=>intro _;rfl
 |cons a r ih=>intro h;rw[List.takeWhile_cons_of_pos (h a List.mem_cons_self),ih fun x hx=>h x (List.mem_cons_of_mem _ hx)]
theorem Fo (s:List UInt8) (hs:s.length≤1000000000) (w:World) (hW:Laid w):Calls Tryz.prog 78 #[.string (aA s)] w fun e w'=>e= .returned (.string (aA (nE s)))∧Below w.heap.size w w':=by
 have HW:=hid hW;have HZ:=hid (aD s);rcases s with _|⟨q,t⟩;have XP:(aA ([]:List UInt8)).toList.isEmpty=true:=by rw[cC];rfl
 have HE:Hid (nE []=[]):=hid rfl;rw[HE.out];generalize aA ([]:List UInt8)=s0 at*;have tg:=Tg.k 0;rotate_left;have bC:=q.toNat_lt;have iW:=aD (q::t);rw[List.length_cons] at iW hs;have h0:0 < (aA (q::t)).size:=by omega
 have tM:(aA (q::t))[0]'h0=q:=jJ _ 0 h0;have XP:(aA (q::t)).toList.isEmpty=false:=by rw[cC];rfl
 have HF:Hid (nE (q::t)=if q=34∨q=39 then t.takeWhile (· !=q) else(q::t)):=hid rfl;have hre:=cX (q::t) 1;have hhe:=jX (q::t) 1;replace hre:(aA (q::t)).extract 1 (aA (q::t)).size=aA t:=hre;replace hhe:(aA (q::t)).extract 0 1=aA [q]:=hhe;have HCU:=hid (fun W hW=>oH t q (by omega) W hW);generalize nE (q::t)=R at*;have h1z:1≤(aA (q::t)).size:=h0;have h1i:(1:Int)≤((aA (q::t)).size:Int):=by omega
 have hcut:(bM q t).1=t.takeWhile (· !=q):=by
  unfold bM;split;·rfl
  ·rename_i h;have hn:q∉t:=by simpa using h
   refine(W8 fun x hx=>?_).symm;simp only[bne_iff_ne,ne_eq];exact fun e=>hn (e▸hx)
 rw[←hcut] at HF;generalize (q::t)=s at*;have dO:q=34∨(q≠34∧q=39)∨(q≠34∧q≠39):=by by_cases h:q=34<;>by_cases h2:q=39<;>simp_all
 rcases dO with rfl|⟨Kj,rfl⟩|⟨Kj,Lb⟩;replace HF:=hid (HF.out.trans (if_pos (.inl rfl)));clear hcut iW;have tg:=Tg.k 1;rotate_left;replace HF:=hid (HF.out.trans (if_pos (.inr rfl)));clear hcut iW Kj;have tg:=Tg.k 2;rotate_left;replace HF:=hid (HF.out.trans (if_neg (fun h=>h.elim Kj Lb)));have e1:((q.toNat:Int)==34)=false:=by rw[beq_eq_false_iff_ne];intro e;exact Kj (UInt8.toNat_inj.1 (by simpa using (by omega:q.toNat=34)))
 have e2:((q.toNat:Int)==39)=false:=by rw[beq_eq_false_iff_ne];intro e;exact Lb (UInt8.toNat_inj.1 (by simpa using (by omega:q.toNat=39)))
 have e3:((q.toNat:Int)!=34)=true:=by rw[bne,e1];rfl
 have e4:((q.toNat:Int)!=39)=true:=by rw[bne,e2];rfl
 clear hcut iW Kj Lb HCU;have tg:=Tg.k 3;all_goals
  go_enter Tryz.func78,Tryz.ntmps78;go_wp2_with fail;first
  |have:Tg 3:=tg;go_ret;exact⟨nN (congrArg aA HF.out.symm),Below.refl _ _⟩
  |have:Tg 0:=tg;go_ret;exact⟨rfl,Below.refl _ _⟩
  |apply BT (fun _ W=>Laid W∧Below w.heap.size w W) rfl (by kernel_rfl) ⟨HW.out.step (bB _),bB _⟩;simp only[];repeat (first
    |(apply iX.step; ·rfl
      ·intro L W hI hl K hK;go_simp;exact hK _ hI
      simp only[pq])
    |(apply iX.step; ·rfl
      ·intro L W hI hl K hK;go_simp;go_at_call 53;refine(HCU.out W hI.1).mono ?_;rintro e w2 ⟨rfl,dE⟩;exact hK _ ⟨hI.1.step dE,hI.2.trans (dE.mono hI.2.size)⟩
      simp only[pq]))
   apply iX.nil;intro L w9 hL hI;have HB:=hid hI.2;clear hL hI;go_wp2_with fail;go_ret;exact⟨nN (congrArg aA HF.out.symm),HB.out⟩
theorem Z7 (n:Nat) (hn:n≤65535) (w:World) (hW:Laid w):Calls Tryz.prog 26 #[.int .i64 (n:Int)] w fun e w'=>e= .returned (.string (aA (Lib.decDigits n)))∧Below w.heap.size w w':=by have HC:=hid (Tryz.internal_strconv_Itoa (n:Int) (by omega) (by omega) w hW.pow);clear hW;go_enter Tryz.func26,Tryz.ntmps26;go_wp2_with fail;refine HC.out.mono ?_;rintro e w' ⟨rfl,k,os,hw⟩;rw[Lib.itoa_nonneg];have HB:=hid (show Below w.heap.size w w' by rw[hw];exact Lib.below_grow w.heap.size w (Nat.le_refl _) k os);clear hw;go_wp2_with fail;go_ret;exact⟨rfl,HB.out⟩
theorem rY.below {w w':World} {B b:Nat} {l:List UInt8} (h:rY w B b l) (hb:Below w.heap.size w w'):rY w' B b l:=by
 have key:∀p,Lib.BuilderAt 65 5 B b p (Lib.byteCells l) w→Lib.BuilderAt 65 5 B b p (Lib.byteCells l) w':=by
  rintro p ⟨h1,v,h2,h3,h4⟩;refine⟨h1,v,(hb.block b (Array.getElem?_eq_some_iff.1 h2).1).trans h2,?_,h4⟩;obtain⟨k1,k2⟩:=h3;refine⟨k1,?_⟩;rcases k2 with k2|⟨g,cap,cur,hv,hg,hh,r⟩;·exact .inl k2
  ·exact .inr ⟨g,cap,cur,hv,hg,by rw[hb.block g (Array.getElem?_eq_some_iff.1 hh).1];exact hh,r⟩
 exact h.imp (key _) (key _)
theorem Gc (u:bD):(aQ J0 u true).length=u.scheme.length+1+(gE J0 u).length+(mA u).length+(if u.hasQuery then 1+u.query.length else 0)+(if u.hasFrag then 1+u.frag.length else 0):=by unfold aQ;simp only[List.length_append,List.length_cons,List.length_nil,Bool.and_true];cases u.hasQuery<;>cases u.hasFrag<;>simp<;>omega
theorem Tx {u:bD} (h:u.host.kind≠0):(gE J0 u).length=2+(xN u).length+(oZ u.host).length+(if u.hasPort then 1+(Lib.decDigits u.port).length else 0):=by unfold gE;rw[if_pos h];simp only[List.length_append,List.length_cons,List.length_nil,J0];cases u.hasPort<;>simp<;>omega
theorem W9 (u:bD):u.user.length≤(xN u).length∧u.pass.length≤(xN u).length:=by
 unfold xN;split;·rename_i h;rw[h.1,h.2];simp
 ·split;·rename_i h;rw[h];simp
  ·simp;omega
theorem aiM {u:bD} (h:u.host.kind≠0):gE J0 u=[47,47]++xN u++oZ u.host++(if u.hasPort then[58]++Lib.decDigits u.port else[]):=by unfold gE;rw[if_pos h];rfl
theorem aiN {u:bD} (h:u.host.kind=0) (ho:u.opaq=true):gE J0 u=[]:=by unfold gE;rw[if_neg (by omega),if_neg (by simp[ho])]
theorem aiO {u:bD} (h:u.host.kind=0) (ho:u.path.length < 2):gE J0 u=[]:=by unfold gE;rw[if_neg (by omega),if_neg (by omega)]
theorem aiP {u:bD} (h:u.host.kind=0) (ho:u.opaq=false) {p:List UInt8} {r:List (List UInt8)} (hp:u.path=p::r) (h2:2≤u.path.length):gE J0 u=if p.isEmpty then[47,46] else[]:=by
 unfold gE;rw[if_neg (by omega)];cases p with
 |nil=>rw[if_pos ⟨ho,h2,by rw[hp];rfl⟩];rfl
 |cons a b=>rw[if_neg (by rw[hp];simp)];rfl
theorem Ty (u:bD) (frag:Bool):aQ J0 u frag=u.scheme++[58]++gE J0 u++mA u++(if u.hasQuery then[63]++u.query else[])++(if u.hasFrag&&frag then[35]++u.frag else[]):=rfl
theorem Nl (u:bD) (pv:Value) (frag:Bool) (hu:nA u) (hlen:(aQ J0 u true).length≤500000000) (hn:u.path.length≤1000000000) (w:World) (hW:Laid w) (hv:bT w pv (u.path.map aA)):
 Calls Tryz.prog 10 #[.agg (dP pv u),.bool frag] w fun e w'=>e= .returned (.string (aA (aQ J0 u frag)))∧Below w.heap.size w w':=by
 have hwp:=Gc u;have aoH:=W9 u;have HW:=hid hW;have HV:=hid hv;have HA:= @aiM u;have HO:= @aiN u;have Z0:= @aiO u;have fW:= @aiP u;have hap:= @Tx u;have Qn:=hid (fun(h:u.host.kind≠0) W=>Tv u pv hu.host.six (by have:=hap h;omega) (by have:=hap h;omega) W);have Z8:=hid (fun(h:u.host.kind≠0)=>(show(xN u).length≤500000000 by have:=hap h;omega));have Z9:=hid (fun(h:u.host.kind≠0)=>(show(oZ u.host).length≤500000000 by have:=hap h;omega));have UO:=hid (fun W hW=>Jd u.host hu.host W hW);have aaA:=hid (fun W hv=>Qm u pv hu.host.six (by omega) hn W hv);have NH:=hid (fun W hW=>Z7 u.port hu.port W hW);have HPL:=hid (show(Lib.decDigits u.port).length≤5 from aiE _ (NU u.port hu.port));have h8:=hu.host.six;have rX:u.scheme.length≤500000000:=by omega
 have qL:(gE J0 u).length≤500000000:=by omega
 have hz3:(mA u).length≤500000000:=by omega
 have HZ:=hid (And.intro rX (And.intro qL hz3));have HZQ:=hid (fun(h:u.hasQuery=true)=>(show u.query.length≤500000000 by rw[h] at hwp;simp only[if_true] at hwp;omega));have HZF:=hid (fun(h:u.hasFrag=true)=>(show u.frag.length≤500000000 by rw[h] at hwp;simp only[if_true] at hwp;omega));have XG:=hid (Ty u frag);generalize aQ J0 u frag=R at*;clear hap aoH hwp rX qL hz3 hlen hW hu;generalize gE J0 u=at_ at*;generalize mA u=pt at*;generalize xN u=wh at*;generalize oZ u.host=ho at*;generalize Lib.decDigits u.port=dg at*;obtain⟨A,c,mD,_⟩:=hv.len;rw[List.length_map] at mD;subst mD;obtain⟨sch,us,ps,⟨k,name,four,six⟩,hpt,po,oq,fl,path,hq,qu,hf,fr⟩:=u;simp only at h8 HV HA HO Z0 fW Qn Z8 Z9 HZ HZQ HZF XG hn⊢;obtain⟨x0,x1,x2,x3,x4,x5,x6,x7,rfl⟩:=eight h8;simp only[dP,eY,List.map,List.cons_append,List.nil_append] at Qn aaA⊢;simp only[cL,eY,List.map,List.cons_append,List.nil_append] at UO;generalize hkb:((k:Int)!=0)=kb;have HKB:=hid hkb;clear hv h8;go_enter Tryz.func10,Tryz.ntmps10;go_wp2_with (first|(refine jH rfl rfl ?_;intro g w1 jL hA1;have eN:=hA1.out.2.1;have uG:=hid jL;have HB:=hid eN;have c0:=jL.cell (i:=0) rfl;have HV1:=hid (HV.out.below eN);have HW1:=hid (HW.out.step eN);clear hA1 eN jL HV HW)|(refine eX rfl (LD _) ?_;intro gb w2 Ks hN;have jP:=hid (rY.row Ks (Nat.le_of_eq hN.out.1.symm));have cK:=hid hN.out.2.1;have c0:=(uG.out.below hN.out.2.1).cell (i:=0) rfl;clear hN Ks));clear c0;refine(cO _ _ _ _ (aA sch) jP.out (by have:=HZ.out.1;rw[aD,List.length_nil];omega) (cK.out.size)).mono ?_;rintro e w5 ⟨rfl,h5,aM⟩;rw[aC] at h5;replace jP:=hid h5;replace cK:=hid (cK.out.trans aM);clear h5 aM;go_wp2_with fail;refine(iQ _ _ _ _ 58 rfl jP.out (by have:=HZ.out.1;have:=HZ.out.2.1;have:=HZ.out.2.2;simp only[List.length_append,List.length_cons,List.length_nil,aD];omega) (cK.out.size)).mono ?_;rintro e w5 ⟨rfl,h5,aM⟩;replace jP:=hid h5;replace cK:=hid (cK.out.trans aM);clear h5 aM;have c3:=(uG.out.below cK.out).cell (i:=3) rfl;go_upto_if 13 with fail
 clear c3;go_cut [] (fun wc=>Hid (rY wc w1.heap.size gb (sch++[58]++at_))∧Hid (Below w1.heap.size w1 wc));case first=>
  cases kb with
  |false=>
   have zP:k=0:=by have:=HKB.out;simpa using this
   cases oq with
   |true=>
    have HT:=hid (HO zP rfl);clear HA HO Z0 fW Qn Z8 Z9 zP;have XL:=(uG.out.below cK.out).cell (i:=16) rfl;go_wp2_with fail
    go_meet
    case rel=>exact⟨hid (by rw[HT.out,List.append_nil];exact jP.out),cK⟩
   |false=>
    by_cases h2:path.length < 2
    ·have HT:=hid (Z0 zP h2);have hd:decide ((2:Int)≤(path.length:Int))=false:=by simp;omega
     clear HA HO Z0 fW Qn Z8 Z9 zP;have XL:=(uG.out.below cK.out).cell (i:=16) rfl;have UJ:=(uG.out.below cK.out).cell (i:=18) rfl;go_wp2_with fail
     go_meet
     case rel=>exact⟨hid (by rw[HT.out,List.append_nil];exact jP.out),cK⟩
    ·have hd:decide ((2:Int)≤(path.length:Int))=true:=by simp;omega
     obtain⟨p0,pr,hpr⟩:∃p0 pr,path=p0::pr:=by
      cases path with
      |nil=>simp at h2
      |cons a b=>exact⟨a,b,rfl⟩
     have HT:=hid (fW zP rfl hpr (by omega));have h0:0 < (path.map aA).length:=by rw[List.length_map];omega
     obtain⟨gp,off,rfl,hc⟩:=(HV1.out.below cK.out).cellAt h0;have hc':w5.cell? ⟨gp,off,none⟩=some (.string (aA p0)):=by
      have e0:(path.map aA)[0]'h0=aA p0:=by simp[hpr]
      rw[e0] at hc;exact hc
     clear HA HO Z0 fW Qn Z8 Z9 zP hc h0 hpr;cases he:p0.isEmpty with
     |true=>
      rw[he] at HT;have e1:(aA p0).toList.isEmpty=true:=by rw[cC];exact he
      clear he;have XL:=(uG.out.below cK.out).cell (i:=16) rfl;have UJ:=(uG.out.below cK.out).cell (i:=18) rfl;go_wp2_with fail;clear XL UJ;refine(cO _ _ _ _ (aA [47,46]) jP.out (by have:=HZ.out.1;have:=HZ.out.2.1;have:=HZ.out.2.2;simp only[List.length_append,List.length_cons,List.length_nil,aD];omega) (cK.out.size)).mono ?_;rintro e w5 ⟨rfl,h5,aM⟩;rw[aC] at h5;replace jP:=hid h5;replace cK:=hid (cK.out.trans aM);clear h5 aM;go_wp2_with fail
      go_meet
      case rel=>exact⟨hid (by rw[HT.out];exact jP.out),cK⟩
     |false=>
      rw[he] at HT;have e1:(aA p0).toList.isEmpty=false:=by rw[cC];exact he
      clear he;have XL:=(uG.out.below cK.out).cell (i:=16) rfl;have UJ:=(uG.out.below cK.out).cell (i:=18) rfl;go_wp2_with fail
      go_meet
      case rel=>exact⟨hid (by rw[HT.out];simp only[Bool.false_eq_true,if_false,List.append_nil];exact jP.out),cK⟩
  |true=>
   have zP:k≠0:=by have:=HKB.out;simpa using this
   have HK:=hid zP;have HT:=hid (HA zP);clear HA HO Z0 fW zP;cases hpt with
   |false=>
    go_wp2_with fail;refine(cO _ _ _ _ (aA [47,47]) jP.out (by have:=HZ.out.1;have:=HZ.out.2.1;have:=HZ.out.2.2;simp only[List.length_append,List.length_cons,List.length_nil,aD];omega) (cK.out.size)).mono ?_;rintro e w5 ⟨rfl,h5,aM⟩;rw[aC] at h5;replace jP:=hid h5;replace cK:=hid (cK.out.trans aM);clear h5 aM;go_wp2_with (refine fF rfl (uG.out.below cK.out) jQ rfl rfl ?_);refine(Qn.out HK.out _).mono ?_;rintro e w5 ⟨rfl,aM⟩;replace cK:=aR cK aM;replace jP:=hid (rY.below jP.out aM);clear aM;go_wp2_with fail;refine(cO _ _ _ _ (aA wh) jP.out (by have:=HZ.out.1;have:=HZ.out.2.1;have:=HZ.out.2.2;have:=Z8.out HK.out;have:=Z9.out HK.out;have:=HPL.out;simp only[List.length_append,List.length_cons,List.length_nil,aD];omega) (cK.out.size)).mono ?_;rintro e w5 ⟨rfl,h5,aM⟩;rw[aC] at h5;replace jP:=hid h5;replace cK:=hid (cK.out.trans aM);clear h5 aM;go_wp2_with (refine fO rfl 32 _ rfl _ 3 rfl (uG.out.below cK.out) [.int .i64 (k:Int),.string (aA name),.int .u32 (four:Int),.int .u16 (x0:Int),.int .u16 (x1:Int),.int .u16 (x2:Int),.int .u16 (x3:Int),.int .u16 (x4:Int),.int .u16 (x5:Int),.int .u16 (x6:Int),.int .u16 (x7:Int)] rfl _ Tryz.underlying32 rfl (by kernel_rfl) ?_);refine(UO.out _ (HW1.out.step cK.out)).mono ?_;rintro e w5 ⟨rfl,aM⟩;replace cK:=aR cK aM;replace jP:=hid (rY.below jP.out aM);clear aM;go_wp2_with fail;refine(cO _ _ _ _ (aA ho) jP.out (by have:=HZ.out.1;have:=HZ.out.2.1;have:=HZ.out.2.2;have:=Z8.out HK.out;have:=Z9.out HK.out;have:=HPL.out;simp only[List.length_append,List.length_cons,List.length_nil,aD];omega) (cK.out.size)).mono ?_;rintro e w5 ⟨rfl,h5,aM⟩;rw[aC] at h5;replace jP:=hid h5;replace cK:=hid (cK.out.trans aM);clear h5 aM;have c14:=(uG.out.below cK.out).cell (i:=14) rfl;go_wp2_with fail;clear c14
    go_meet
    case rel=>exact⟨hid (by rw[HT.out];simpa using jP.out),cK⟩
   |true=>
    go_wp2_with fail;refine(cO _ _ _ _ (aA [47,47]) jP.out (by have:=HZ.out.1;have:=HZ.out.2.1;have:=HZ.out.2.2;simp only[List.length_append,List.length_cons,List.length_nil,aD];omega) (cK.out.size)).mono ?_;rintro e w5 ⟨rfl,h5,aM⟩;rw[aC] at h5;replace jP:=hid h5;replace cK:=hid (cK.out.trans aM);clear h5 aM;go_wp2_with (refine fF rfl (uG.out.below cK.out) jQ rfl rfl ?_);refine(Qn.out HK.out _).mono ?_;rintro e w5 ⟨rfl,aM⟩;replace cK:=aR cK aM;replace jP:=hid (rY.below jP.out aM);clear aM;go_wp2_with fail;refine(cO _ _ _ _ (aA wh) jP.out (by have:=HZ.out.1;have:=HZ.out.2.1;have:=HZ.out.2.2;have:=Z8.out HK.out;have:=Z9.out HK.out;have:=HPL.out;simp only[List.length_append,List.length_cons,List.length_nil,aD];omega) (cK.out.size)).mono ?_;rintro e w5 ⟨rfl,h5,aM⟩;rw[aC] at h5;replace jP:=hid h5;replace cK:=hid (cK.out.trans aM);clear h5 aM;go_wp2_with (refine fO rfl 32 _ rfl _ 3 rfl (uG.out.below cK.out) [.int .i64 (k:Int),.string (aA name),.int .u32 (four:Int),.int .u16 (x0:Int),.int .u16 (x1:Int),.int .u16 (x2:Int),.int .u16 (x3:Int),.int .u16 (x4:Int),.int .u16 (x5:Int),.int .u16 (x6:Int),.int .u16 (x7:Int)] rfl _ Tryz.underlying32 rfl (by kernel_rfl) ?_);refine(UO.out _ (HW1.out.step cK.out)).mono ?_;rintro e w5 ⟨rfl,aM⟩;replace cK:=aR cK aM;replace jP:=hid (rY.below jP.out aM);clear aM;go_wp2_with fail;refine(cO _ _ _ _ (aA ho) jP.out (by have:=HZ.out.1;have:=HZ.out.2.1;have:=HZ.out.2.2;have:=Z8.out HK.out;have:=Z9.out HK.out;have:=HPL.out;simp only[List.length_append,List.length_cons,List.length_nil,aD];omega) (cK.out.size)).mono ?_;rintro e w5 ⟨rfl,h5,aM⟩;rw[aC] at h5;replace jP:=hid h5;replace cK:=hid (cK.out.trans aM);clear h5 aM;have c14:=(uG.out.below cK.out).cell (i:=14) rfl;go_wp2_with fail;clear c14;refine(iQ _ _ _ _ 58 rfl jP.out (by have:=HZ.out.1;have:=HZ.out.2.1;have:=HZ.out.2.2;have:=Z8.out HK.out;have:=Z9.out HK.out;have:=HPL.out;simp only[List.length_append,List.length_cons,List.length_nil,aD];omega) (cK.out.size)).mono ?_;rintro e w5 ⟨rfl,h5,aM⟩;replace jP:=hid h5;replace cK:=hid (cK.out.trans aM);clear h5 aM;have c15:=(uG.out.below cK.out).cell (i:=15) rfl;go_wp2_with fail;clear c15;refine(NH.out _ (HW1.out.step cK.out)).mono ?_;rintro e w5 ⟨rfl,aM⟩;replace cK:=aR cK aM;replace jP:=hid (rY.below jP.out aM);clear aM;go_wp2_with fail;refine(cO _ _ _ _ (aA dg) jP.out (by have:=HZ.out.1;have:=HZ.out.2.1;have:=HZ.out.2.2;have:=Z8.out HK.out;have:=Z9.out HK.out;have:=HPL.out;simp only[List.length_append,List.length_cons,List.length_nil,aD];omega) (cK.out.size)).mono ?_;rintro e w5 ⟨rfl,h5,aM⟩;rw[aC] at h5;replace jP:=hid h5;replace cK:=hid (cK.out.trans aM);clear h5 aM;go_wp2_with fail
    go_meet
    case rel=>exact⟨hid (by rw[HT.out];simpa using jP.out),cK⟩
 case rest=>
  obtain⟨jP,cK⟩:=hcut;clear HA HO Z0 fW Qn Z8 Z9 NH UO HPL HKB;go_wp2_with (refine fF rfl (uG.out.below cK.out) jQ rfl rfl ?_);refine(aaA.out _ (HV1.out.below cK.out)).mono ?_;rintro e w5 ⟨rfl,aM⟩;replace cK:=aR cK aM;replace jP:=hid (rY.below jP.out aM);clear aM;go_wp2_with fail;refine(cO _ _ _ _ (aA pt) jP.out (by have:=HZ.out.1;have:=HZ.out.2.1;have:=HZ.out.2.2;simp only[List.length_append,List.length_cons,List.length_nil,aD];omega) (cK.out.size)).mono ?_;rintro e w5 ⟨rfl,h5,aM⟩;rw[aC] at h5;replace jP:=hid h5;replace cK:=hid (cK.out.trans aM);clear h5 aM;have c19:=(uG.out.below cK.out).cell (i:=19) rfl;go_upto_if 50 with fail
  clear c19;go_cut [] (fun wc=>Hid (rY wc w1.heap.size gb (sch++[58]++at_++pt++(if hq then[63]++qu else[])))∧Hid (Below w1.heap.size w1 wc));case first=>
   cases hq with
   |false=>
    go_wp2_with fail
    go_meet
    case rel=>exact⟨hid (by simpa using jP.out),cK⟩
   |true=>
    have HQ:=hid (HZQ.out rfl);clear HZQ;go_wp2_with fail;refine(iQ _ _ _ _ 63 rfl jP.out (by have:=HZ.out.1;have:=HZ.out.2.1;have:=HZ.out.2.2;simp only[List.length_append,List.length_cons,List.length_nil,aD];omega) (cK.out.size)).mono ?_;rintro e w5 ⟨rfl,h5,aM⟩;replace jP:=hid h5;replace cK:=hid (cK.out.trans aM);clear h5 aM;have c20:=(uG.out.below cK.out).cell (i:=20) rfl;go_wp2_with fail;clear c20;refine(cO _ _ _ _ (aA qu) jP.out (by have:=HZ.out.1;have:=HZ.out.2.1;have:=HZ.out.2.2;have:=HQ.out;simp only[List.length_append,List.length_cons,List.length_nil,aD];omega) (cK.out.size)).mono ?_;rintro e w5 ⟨rfl,h5,aM⟩;rw[aC] at h5;replace jP:=hid h5;replace cK:=hid (cK.out.trans aM);clear h5 aM;go_wp2_with fail
    go_meet
    case rel=>exact⟨hid (by simpa using jP.out),cK⟩
  case rest=>
   obtain⟨jP,cK⟩:=hcut;have HZ2:Hid ((if hq=true then[63]++qu else[]).length≤500000001):=hid (by
    cases hq with
    |false=>simp
    |true=>have:=HZQ.out rfl;simp;omega)
   clear HZQ aaA;generalize (if hq=true then[63]++qu else[])=qt at*;cases hf with
   |false=>have c21:=(uG.out.below cK.out).cell (i:=21) rfl;go_wp2_with fail;refine(eU _ _ _ _ jP.out cK.out.size).mono ?_;rintro e w5 ⟨rfl,aM⟩;have fG:=hid (HB.out.trans ((cK.out.trans aM).mono HB.out.size));clear aM;go_wp2_with fail;go_ret;exact⟨LF (by rw[XG.out];show aA _=aA _;congr 1;simp),fG.out⟩
   |true=>
    have QP:=hid (HZF.out rfl);clear HZF;cases frag with
    |false=>have c21:=(uG.out.below cK.out).cell (i:=21) rfl;go_wp2_with fail;refine(eU _ _ _ _ jP.out cK.out.size).mono ?_;rintro e w5 ⟨rfl,aM⟩;have fG:=hid (HB.out.trans ((cK.out.trans aM).mono HB.out.size));clear aM;go_wp2_with fail;go_ret;exact⟨LF (by rw[XG.out];show aA _=aA _;congr 1;simp),fG.out⟩
    |true=>have c21:=(uG.out.below cK.out).cell (i:=21) rfl;go_wp2_with fail;clear c21;refine(iQ _ _ _ _ 35 rfl jP.out (by have:=HZ2.out;have:=HZ.out.1;have:=HZ.out.2.1;have:=HZ.out.2.2;simp only[List.length_append,List.length_cons,List.length_nil,aD];omega) (cK.out.size)).mono ?_;rintro e w5 ⟨rfl,h5,aM⟩;replace jP:=hid h5;replace cK:=hid (cK.out.trans aM);clear h5 aM;have c22:=(uG.out.below cK.out).cell (i:=22) rfl;go_wp2_with fail;clear c22;refine(cO _ _ _ _ (aA fr) jP.out (by have:=HZ2.out;have:=QP.out;have:=HZ.out.1;have:=HZ.out.2.1;have:=HZ.out.2.2;simp only[List.length_append,List.length_cons,List.length_nil,aD];omega) (cK.out.size)).mono ?_;rintro e w5 ⟨rfl,h5,aM⟩;rw[aC] at h5;replace jP:=hid h5;replace cK:=hid (cK.out.trans aM);clear h5 aM;go_wp2_with fail;refine(eU _ _ _ _ jP.out cK.out.size).mono ?_;rintro e w5 ⟨rfl,aM⟩;have fG:=hid (HB.out.trans ((cK.out.trans aM).mono HB.out.size));clear aM;go_wp2_with fail;go_ret;exact⟨LF (by rw[XG.out];show aA _=aA _;congr 1;simp),fG.out⟩
theorem Xa:BD 23 uI:=⟨rfl,by kernel_rfl⟩
theorem RdV.mono {o:Option bD} {w w0 w':World} {e:Ending} (h:RdV o w e w') (hb:Below w0.heap.size w0 w):RdV o w0 e w':=by obtain⟨h1,arr,rfl,h3⟩:=h;exact⟨hb.trans (h1.mono hb.size),arr,rfl,h3.lE fun x hx=>Nat.lt_of_lt_of_le hx hb.size⟩
theorem Nn (q:UInt8) (s:List UInt8):(bM q s).1.length≤s.length∧(bM q s).2.1.length≤s.length:=by
 have:=sO q s;refine⟨by omega,?_⟩;unfold bM;split;·simp only[List.length_drop];have:=bW (· !=q) s;omega
 ·simp
theorem Jw {s:List UInt8} (hs:s.length≤5000000):mT (partsOf s):=by
 have h0:=Dj s;have h1:=Nn 35 (qI s);have h2:=Nn 63 (bM 35 (qI s)).1;have h3:=Nn 58 (bM 63 (bM 35 (qI s)).1).1;unfold partsOf splitN;simp only;split;·exact⟨by simp only[gQ,List.length_map];omega,by simp only;omega,by simp only;omega,by simp only;omega⟩
 ·exact⟨by simp,by simp only;omega,by simp only;omega,by simp only;omega⟩
theorem BE (s:List UInt8) (hs:s.length≤5000000) (w:World) (hW:Laid w):Calls Tryz.prog 11 #[.string (aA s)] w fun e w'=>RdV (iL J0 (partsOf s)) w e w':=by
 have HW:=hid hW;have oO:=Dj s;have QQ:=hid (fun W=>FO s W (by omega));have CO:=hid (fun W hW=>F2 (qI s) W hW (by omega));have GJ:=hid (fun W hW=>Jv (cT.zero (fun _=>False) W) (by simp) (Jw hs) (w:=W) hW);have fW:Hid (iL J0 (partsOf s)=if(partsOf s).hasScheme then kU J0 {} (partsOf s) else none):=hid rfl;have e0:splitN (qI s)=partsOf s:=rfl;rw[e0] at CO;generalize iL J0 (partsOf s)=R at*;generalize aA (qI s)=s2 at*;generalize partsOf s=P at*;generalize kU J0 {} P=JO at*;generalize aA s=s' at*;obtain⟨abP,sch,rest,hq,qu,hf,fr⟩:=P;simp only[SO,fK] at CO GJ fW;clear hW oO e0 hs;have HB:Hid (Below w.heap.size w w):=hid (Below.refl _ _);cases abP;have HR:Hid (R=none):=hid (fW.out.trans (if_neg (by simp)));clear fW GJ;have tg:=Tg.k 0;rotate_left;have HR:Hid (R=JO):=hid (fW.out.trans (if_pos rfl));clear fW;have tg:=Tg.k 1;all_goals
  go_enter Tryz.func11,Tryz.ntmps11;go_wp2_with (refine eX rfl (aO _) ?_;intro gR w2 bA hN;have Gd:=jV HB hN;replace HB:=aR HB hN.out.2.1;clear hN);refine(QQ.out _).mono ?_;rintro e w5 ⟨rfl,aM⟩;replace bA:=bA.below aM;replace HB:=aR HB aM;clear aM;go_wp2_with fail;refine(CO.out _ (HW.out.below HB.out HW.out.size)).mono ?_;rintro e w5 ⟨rfl,aM⟩;replace bA:=bA.below aM;replace HB:=aR HB aM;clear aM;go_wp2_with (first|(refine eX rfl (Bw _) ?_;intro gP w2 aK hN;have aaB:=fU bA hN;have UN:=jV HB hN;replace bA:=bA.below hN.out.2.1;replace HB:=aR HB hN.out.2.1;clear hN)|(refine lV rfl aK rfl (by kernel_rfl) ?_;intro w1 aH aB;replace bA:=bA.other aB (Nat.ne_of_lt aaB);replace HB:=bU HB aB.1 UN;replace aK:=aH;clear aB aH;have c0:=aK.cell (i:=0) rfl)|(refine aG rfl 34 _ rfl _ (.agg uI) (by kernel_rfl) ?_)|(refine vS rfl bA Xa jQ rfl rfl ?_;intro w1 aH aB;replace aK:=aK.other aB (Nat.ne_of_gt aaB);replace HB:=bU HB aB.1 Gd;replace bA:=aH;clear aB aH)|(refine fF rfl aK CP rfl rfl ?_));first
  |have:Tg 1:=tg;have HZR:=hid bA.lt;refine(GJ.out _ (HW.out.below HB.out HW.out.size)).mono ?_;rintro e w5 ⟨aM,arr,rfl,h5⟩;have HU:=hid h5;have yV:=hid HB.out.size;replace bA:=bA.below aM;replace aK:=aK.below aM;replace HB:=aR HB aM;clear h5 aM;go_wp2_with (refine vS rfl bA HU.out.dH jQ rfl rfl ?_;intro w1 aH aB;replace aK:=aK.other aB (Nat.ne_of_gt aaB);replace HU:=hid (HU.out.save (bL.of aB) HZR.out);replace HB:=bU HB aB.1 Gd;replace bA:=aH;clear aB aH);refine dT rfl 23 _ rfl rfl bA Tryz.underlying34 rfl HU.out.dH.1 (by kernel_rfl) rfl ?_;rw[HR.out];exact⟨HB.out,_,rfl,HU.out.lE fun x hx=>Nat.lt_of_lt_of_le hx yV.out⟩
  |refine dT rfl 23 _ rfl rfl bA Tryz.underlying34 rfl rfl (by kernel_rfl) rfl ?_;rw[HR.out];exact⟨HB.out,_,rfl,cT.zero _ _⟩
def CY (u:bD):Bool:=match iL J0 (partsOf (aQ J0 u true)) with
 |none=>false
 |some v=>Qj v u
theorem Jx {u:bD} (hu:nA u):u.path.length≤(aQ J0 u true).length:=by
 rw[Gc];cases ho:u.opaq with
 |true=>rw[hu.path ho];simp
 |false=>
  have h:u.path.length≤(mA u).length:=by
   unfold mA;rw[ho];simp only[Bool.false_eq_true,if_false];generalize u.path=L;induction L with
   |nil=>simp
   |cons p L ih=>rw[List.flatMap_cons,List.length_append,List.length_cons,List.length_cons];omega
  omega
theorem Qo {s:List UInt8} {v:bD} (h:iL J0 (partsOf s)=some v):dL (aQ J0 v true)≤5*s.length+54:=by
 unfold iL at h;split at h
 ·have h1:=T5 ZZ h (fun e=>by cases e);have h2:=FB s;have h3:dL (aQ J0 {} true)=1:=by decide+kernel
  omega
 ·cases h
theorem Tz {s:List UInt8} (hs:s.length≤5000000) {v:bD} (h:iL J0 (partsOf s)=some v):nA v:=by
 unfold iL at h;split at h;·exact W4 nA.zero (Jw hs) h
 ·cases h
theorem Ad {N:Nat→Prop} {w:World} {arr:Array Value} {u:bD} (hb:cT N w arr u) (frag:Bool) (hlen:(aQ J0 u true).length≤500000000) (hW:Laid w):
 Calls Tryz.prog 10 #[.agg arr,.bool frag] w fun e w'=>e= .returned (.string (aA (aQ J0 u frag)))∧Below w.heap.size w w':=by
 obtain⟨pv,rfl,hp,hu⟩:=hb;exact Nl u pv frag hu hlen (by have:=Jx hu;omega) w hW hp.read
theorem Qp {N0:Nat→Prop} {arr:Array Value} {u:bD} {w:World} (hb:cT N0 w arr u) (hlen:(aQ J0 u true).length≤5000000) (hW:Laid w):Calls Tryz.prog 13 #[.agg arr] w fun e w'=>e= .returned (.bool (CY u))∧Below w.heap.size w w':=by
 have HW:=hid hW;have lF:=hid hb;have Tt:=hid hb.dH;have DP:=hid (fun W (h1:cT N0 W arr u) hW=>Ad h1 true (by omega) (w:=W) hW);have ZO:=hid (fun W hW=>BE (aQ J0 u true) hlen W hW);have Pe:u.path.length≤1000000000:=by obtain⟨pv,rfl,hp,hu⟩:=hb;have:=Jx hu;omega
 have Ut:∀v,iL J0 (partsOf (aQ J0 u true))=some v→v.path.length≤1000000000:=fun v hv=>by have h1:=Qo hv;have h2:=Ni (Tz hlen hv);omega
 have HS:=hid (fun(v:bD) M N W ar (hv:iL J0 (partsOf (aQ J0 u true))=some v) (h1:cT M W ar v) (h2:cT N W arr u)=>W6 h1 h2 (Ut v hv) Pe);have HR:Hid (CY u=match iL J0 (partsOf (aQ J0 u true)) with|none=>false|some v=>Qj v u):=hid rfl;generalize CY u=R at*;generalize aA (aQ J0 u true)=s at*;generalize iL J0 (partsOf (aQ J0 u true))=O at*;clear hW hb Pe Ut hlen;have HB:Hid (Below w.heap.size w w):=hid (Below.refl _ _);go_enter Tryz.func13,Tryz.ntmps13;go_wp2_with (first|(refine jH rfl rfl ?_;intro gB w2 aE hN;have Kz:=jV HB hN;replace HB:=aR HB hN.out.2.1;clear hN)|(refine fF rfl aE jQ Tt.out.1 rfl ?_));refine(DP.out _ (lF.out.below HB.out) (HW.out.below HB.out HW.out.size)).mono ?_;rintro e w5 ⟨rfl,aM⟩;replace aE:=aE.below aM;replace HB:=aR HB aM;clear aM;go_wp2_with fail;refine(ZO.out _ (HW.out.below HB.out HW.out.size)).mono ?_;rintro e w5 ⟨aM,ar,rfl,h5⟩;have HUV:=hid h5;replace aE:=aE.below aM;replace HB:=aR HB aM;clear aM h5;cases O with
 |none=>have HF:Hid (R=false):=hid HR.out;simp only[Option.getD_none,Option.isSome_none] at HUV⊢;clear HR HS;go_wp2_with (first|(refine eX rfl (aO _) ?_;intro gV w2 dA hN;have aaC:=fU aE hN;have TA:=jV HB hN;replace aE:=aE.below hN.out.2.1;replace HB:=aR HB hN.out.2.1;have iJ:=hid hN.out.2.1;have lV5:=Nat.le_of_eq hN.out.1.symm;clear hN)|(refine vS rfl dA HUV.out.dH jQ rfl rfl ?_;intro w1 aH aB;replace aE:=aE.other aB (Nat.ne_of_lt aaC);replace iJ:=bU iJ aB.1 lV5;replace HB:=bU HB aB.1 TA;replace dA:=aH;clear aB aH)|(refine jR rfl 34 _ rfl _ 23 rfl aE _ Tryz.underlying34 rfl Tt.out.1 (by kernel_rfl) ?_)|(refine jR rfl 34 _ rfl _ 23 rfl dA _ Tryz.underlying34 rfl HUV.out.dH.1 (by kernel_rfl) ?_));go_ret;exact⟨aZ HF.out.symm,HB.out⟩
 |some v=>have HF:Hid (R=Qj v u):=hid HR.out;simp only[Option.getD_some,Option.isSome_some] at HUV⊢;clear HR;go_wp2_with (first|(refine eX rfl (aO _) ?_;intro gV w2 dA hN;have aaC:=fU aE hN;have TA:=jV HB hN;replace aE:=aE.below hN.out.2.1;replace HB:=aR HB hN.out.2.1;have iJ:=hid hN.out.2.1;have lV5:=Nat.le_of_eq hN.out.1.symm;clear hN)|(refine vS rfl dA HUV.out.dH jQ rfl rfl ?_;intro w1 aH aB;replace aE:=aE.other aB (Nat.ne_of_lt aaC);replace iJ:=bU iJ aB.1 lV5;replace HB:=bU HB aB.1 TA;replace dA:=aH;clear aB aH)|(refine jR rfl 34 _ rfl _ 23 rfl aE _ Tryz.underlying34 rfl Tt.out.1 (by kernel_rfl) ?_)|(refine jR rfl 34 _ rfl _ 23 rfl dA _ Tryz.underlying34 rfl HUV.out.dH.1 (by kernel_rfl) ?_));refine(HS.out v _ _ _ _ rfl (HUV.out.below iJ.out) (lF.out.below HB.out)).mono ?_;rintro e w6 ⟨rfl,fH⟩;have Eg:=aR HB fH;clear fH;go_wp2_with fail;go_ret;exact⟨aZ HF.out.symm,Eg.out⟩
end Go.Proofs.YtmgmclkplepapaaGreatDoor
