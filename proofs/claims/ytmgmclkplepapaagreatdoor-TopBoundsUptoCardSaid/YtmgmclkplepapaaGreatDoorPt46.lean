/- Part of the proof of TopBoundsUptoCardSaid. Conditions: none beyond the statement. -/
import Derived.Test.YtmgmclkplepapaaGreatDoorPt45
set_option linter.all false
set_option maxRecDepth 100000
set_option maxHeartbeats 64000000
namespace Go.Proofs.YtmgmclkplepapaaGreatDoor
open Go.RowKit
theorem mU (w:World) (uY:Value):(Instr.alloc 92 true uY).run Tryz.prog w= .ok (.pointer (some ⟨w.heap.size,0,none⟩)) (w.alloc (.cells sZ 92)):=by kernel_rfl
theorem B4:BD 8 sZ:=⟨rfl,by kernel_rfl⟩
def BF (N:Nat→Prop) (w:World) (arr:Array Value) (url:List UInt8) (words:List (List UInt8)):Prop:=∃c wv,arr=Ag (aA url) wv c∧bP N w wv words
def alT (o:Option vY) (L:List (List UInt8)) (w:World) (e:Ending) (w':World):Prop:=Below w.heap.size w w'∧∃arr,e= .returned (.tuple #[.agg arr,.bool o.isSome])∧BD 8 arr∧(o.isSome=true→BF (fun b=>b < w.heap.size) w' arr [] L)
theorem Qw (c:vY):vZ c []=some c:=rfl
theorem Nq (c:vY) (w:List UInt8) (r:List (List UInt8)):vZ c (w::r)=match takeN c w with
 |none=>none
 |some d=>vZ d r:=rfl
theorem tV (v:Value) (L:List (List UInt8)) (hn:L.length≤1000000) (hl:∀x∈L,x.length≤1000000000) (w:World) (hW:Laid w) (hv:bT w v (L.map aA)):Calls Tryz.prog 74 #[v] w fun e w'=>alT (xW L) L w e w':=by
 have HW:=hid hW;have HV:=hid hv;have HL:=hid hl;have QQ:=hid (fun W (hv:bT W v (L.map aA))=>pX v L W hv (by omega));obtain⟨A,cp,mD,_⟩:=hv.len;rw[List.length_map] at mD;subst mD;have HD:Hid (xW L=match vZ {} L with|none=>none|some c=>if c.Mb=true∧c.Ma=false then none else some c):=hid rfl;generalize xW L=R at*;clear hW hv hl;have HB:Hid (Below w.heap.size w w):=hid (Below.refl _ _);go_enter Tryz.func74,Tryz.ntmps74;go_wp2_with (first|(refine eX (d:=2) rfl (mU _) ?_;intro gR w2 bA hN;have Gd:=jV HB hN;replace HB:=aR HB hN.out.2.1;clear hN)|(refine eX (d:=4) rfl (mU _) ?_;intro gC w2 fY hN;have BG:=fU bA hN;have lgC:=jV HB hN;replace bA:=bA.below hN.out.2.1;replace HB:=aR HB hN.out.2.1;clear hN));go_loopw [9] (fun i wr=>∃(k:Nat) (c:vY),i= .int .i64 (k:Int)∧k≤L.length∧Hid (vZ {} L=vZ c (L.drop k))∧Hid (Row wr gC 92 (Ag ⟨#[]⟩ (.slice none 0 0) c))∧Hid (Row wr gR 92 sZ)∧Hid (Below w.heap.size w wr)) (fun i _=>L.length - (intOf i).toNat);case atStart=>exact⟨0,{},rfl,Nat.zero_le _,hid rfl,hid fY,hid bA,HB⟩
 case round=>
  clear fY bA HB;obtain⟨k,c,rfl,hk,HF,HRC,HRR,HB⟩:=hrel;have bA:=HRR.out;have fY:=HRC.out;clear HRR HRC;by_cases bC:k < L.length
  ·have XO:k < (L.map aA).length:=by simpa using bC
   obtain⟨gp,off,rfl,hc⟩:=(HV.out.below HB.out).cellAt XO;rw[List.getElem_map] at hc;have hF:=HF.out;rw[List.drop_eq_getElem_cons bC,Nq] at hF;have Sp:=hid (fun W hW hR=>Qv gC c L[k] (HL.out _ (List.getElem_mem bC)) W hW hR);generalize L[k]=x at*;generalize takeN c x=O at*;clear XO HF;go_wp2_with fail;refine(Sp.out _ (HW.out.below HB.out HW.out.size) fY).mono ?_;rintro e w5 ⟨rfl,nI,fY⟩;replace bA:=bA.save nI (Nat.ne_of_lt BG);replace HB:=bU HB nI.1 lgC;clear nI;cases O with
   |none=>have HR:Hid (R=none):=hid (HD.out.trans (by rw[hF]));clear hF Sp;go_wp2_with (first|(refine aG rfl 92 _ rfl _ (.agg sZ) (by kernel_rfl) ?_)|(refine vS rfl bA B4 Uy rfl rfl ?_;intro w1 aH aB;replace fY:=fY.other aB (Nat.ne_of_gt BG);replace HB:=bU HB aB.1 Gd;replace bA:=aH;clear aB aH));refine dT rfl 8 _ rfl rfl bA Tryz.underlying92 rfl rfl (by kernel_rfl) rfl ?_;exact⟨HB.out,sZ,by rw[HR.out];rfl,B4,fun h=>by rw[HR.out] at h;cases h⟩
   |some d=>
    have HF:=hid hF;clear hF Sp;go_wp2_with fail;go_roundw;case rel=>exact⟨k+1,d,by go_num,by omega,HF,hid fY,hid bA,HB⟩
    case measure=>simp[intOf];omega
  ·have hF:=HF.out;rw[List.drop_of_length_le (by omega),Qw] at hF;have hD:=HD.out;rw[hF] at hD;simp only at hD;have c4:=fY.cell (i:=4) rfl;have c2:=fY.cell (i:=2) rfl;clear HF hF HD;obtain⟨b1,n1,b2,n2,b3,f3⟩:=c;simp only[Ag] at fY c4 c2 hD;have dO:(b2=true∧b1=false)∨(b2=true∧b1=true)∨b2=false:=by cases b1<;>cases b2<;>simp
   rcases dO with⟨rfl,rfl⟩|⟨rfl,rfl⟩|rfl;·have HR:=hid (hD.trans (if_pos ⟨rfl,rfl⟩));clear hD;go_wp2_with (first|(refine aG rfl 92 _ rfl _ (.agg sZ) (by kernel_rfl) ?_)|(refine vS rfl bA B4 Uy rfl rfl ?_;intro w1 aH aB;replace fY:=fY.other aB (Nat.ne_of_gt BG);replace HB:=bU HB aB.1 Gd;replace bA:=aH;clear aB aH));refine dT rfl 8 _ rfl rfl bA Tryz.underlying92 rfl rfl (by kernel_rfl) rfl ?_;exact⟨HB.out,sZ,by rw[HR.out];rfl,B4,fun h=>by rw[HR.out] at h;cases h⟩
   ·have HR:=hid (hD.trans (if_neg (by simp)));clear hD;go_wp2_with fail;have HZR:=hid (And.intro bA.lt fY.lt);have yV:=hid HB.out.size;refine(QQ.out _ (HV.out.below HB.out)).mono ?_;rintro e w5 ⟨cv,rfl,bE,aM⟩;have NH:=hid (bP.own (N:=fun b=>b < w.heap.size) bE (fun x hx=>Nat.lt_of_lt_of_le hx yV.out));obtain⟨A2,c2,G3⟩:=NH.out.len;subst G3;have HPG:=hid (bP.own (N:=fun b=>b≤gC) bE (fun x hx=>Nat.lt_of_le_of_lt hx HZR.out.2));replace bA:=bA.below aM;replace fY:=fY.below aM;replace HB:=aR HB aM;clear aM bE QQ HZR;go_wp2_with (first|(refine oU 1 rfl fY rfl I22 ?_;intro w1 aH aB;replace bA:=bA.other aB (Nat.ne_of_lt BG);replace HPG:=hid (HPG.out.save (bL.of aB) (Nat.le_refl _));replace HB:=bU HB aB.1 lgC;replace fY:=aH;clear aB aH;simp[Act.eval] at fY)|(refine fF rfl fY Uy rfl rfl ?_)|(refine eW rfl 92 _ _ rfl gR 8 _ rfl rfl bA rfl ⟨rfl,by kernel_rfl⟩ (by kernel_rfl) ?_;intro w1 aH aB;replace fY:=fY.other aB (Nat.ne_of_gt BG);replace HPG:=hid (HPG.out.save (bL.of aB) (Nat.le_of_lt BG));replace HB:=bU HB aB.1 Gd;replace bA:=aH;clear aB aH));refine dT rfl 8 _ rfl rfl bA Tryz.underlying92 rfl rfl (by kernel_rfl) rfl ?_;exact⟨HB.out,_,by rw[HR.out];rfl,⟨rfl,by kernel_rfl⟩,fun _=>⟨⟨true,n1,true,n2,b3,f3⟩,_,rfl,HPG.out.lE fun x hx=>Nat.le_of_lt (Nat.lt_of_lt_of_le hx lgC)⟩⟩
   ·have HR:=hid (hD.trans (if_neg (by simp)));clear hD;go_wp2_with fail;have HZR:=hid (And.intro bA.lt fY.lt);have yV:=hid HB.out.size;refine(QQ.out _ (HV.out.below HB.out)).mono ?_;rintro e w5 ⟨cv,rfl,bE,aM⟩;have NH:=hid (bP.own (N:=fun b=>b < w.heap.size) bE (fun x hx=>Nat.lt_of_lt_of_le hx yV.out));obtain⟨A2,c2,G3⟩:=NH.out.len;subst G3;have HPG:=hid (bP.own (N:=fun b=>b≤gC) bE (fun x hx=>Nat.lt_of_le_of_lt hx HZR.out.2));replace bA:=bA.below aM;replace fY:=fY.below aM;replace HB:=aR HB aM;clear aM bE QQ HZR;go_wp2_with (first|(refine oU 1 rfl fY rfl I22 ?_;intro w1 aH aB;replace bA:=bA.other aB (Nat.ne_of_lt BG);replace HPG:=hid (HPG.out.save (bL.of aB) (Nat.le_refl _));replace HB:=bU HB aB.1 lgC;replace fY:=aH;clear aB aH;simp[Act.eval] at fY)|(refine fF rfl fY Uy rfl rfl ?_)|(refine eW rfl 92 _ _ rfl gR 8 _ rfl rfl bA rfl ⟨rfl,by kernel_rfl⟩ (by kernel_rfl) ?_;intro w1 aH aB;replace fY:=fY.other aB (Nat.ne_of_gt BG);replace HPG:=hid (HPG.out.save (bL.of aB) (Nat.le_of_lt BG));replace HB:=bU HB aB.1 Gd;replace bA:=aH;clear aB aH));refine dT rfl 8 _ rfl rfl bA Tryz.underlying92 rfl rfl (by kernel_rfl) rfl ?_;exact⟨HB.out,_,by rw[HR.out];rfl,⟨rfl,by kernel_rfl⟩,fun _=>⟨⟨b1,n1,false,n2,b3,f3⟩,_,rfl,HPG.out.lE fun x hx=>Nat.le_of_lt (Nat.lt_of_lt_of_le hx lgC)⟩⟩
def tC (b:Bool) (c:UInt8):Bool×Bool:=if b then(true,c !=41) else if c==40 then(true,true) else if c==44||aI c then(false,false) else(true,false)
theorem Qx (b:Bool):bZ b []=0:=by cases b<;>rfl
theorem Nr (b:Bool) (c:UInt8) (t:List UInt8):bZ b (c::t)=if(tC b c).1 then 1+bZ (tC b c).2 t else 0:=by
 cases b with
 |true=>rfl
 |false=>
  unfold tC;rw[bZ];simp only[Bool.false_eq_true,if_false];split;·rfl
  ·split<;>rfl
theorem aiV (c:UInt8) (b:Bool) (g:Nat) (w:World) (hR:Row w g 4 #[.bool b]):Calls Tryz.prog 113 #[.int .u8 (c.toNat:Int),.pointer (some ⟨g,0,none⟩)] w fun e w'=>e= .returned (.bool (tC b c).1)∧Row w' g 4 #[.bool (tC b c).2]∧mZ g w w':=by
 have HB:=hid (mF c w);have q1:((c.toNat:Int)==41)=(c==41):=yP c 41 (by decide);have q2:((c.toNat:Int)==40)=(c==40):=yP c 40 (by decide);have q3:((c.toNat:Int)==44)=(c==44):=yP c 44 (by decide);have q4:((c.toNat:Int)!=41)=(c !=41):=by unfold bne;rw[q1]
 have hW:tC b c=if b then(true,c !=41) else if c==40 then(true,true) else if c==44||aI c then(false,false) else(true,false):=rfl
 have c0:=hR.cell (i:=0) rfl;generalize tC b c=R at*;generalize aI c=bl at*;generalize (c !=41)=x41 at*;generalize (c==40)=x40 at*;generalize (c==44)=x44 at*;clear q1;cases b;cases x40;cases x44
 ·cases bl;all_goals
   have HR:=hid hW;clear hW q4;go_enter Tryz.func113,Tryz.ntmps113;go_wp2_with fail;refine(HB.out).mono ?_;rintro e w' ⟨rfl,rfl⟩;go_wp2_with fail;go_ret;exact⟨aZ (by rw[HR.out];rfl),by rw[HR.out];exact hR,mZ.rf _ _⟩
 have HR:=hid hW;clear hW q4 HB;have tg:=Tg.k 2;rotate_left;have HR:=hid hW;clear hW q3 q4 HB;have tg:=Tg.k 1;rotate_left;have HR:=hid hW;clear hW q2 q3 HB;have tg:=Tg.k 0;all_goals
  go_enter Tryz.func113,Tryz.ntmps113;go_wp2_with (refine oU 0 rfl hR rfl I4 ?_;intro w1 aH aB;simp[Act.eval] at aH;have SD:=hid aH;have CQ:=hid aB;clear aH aB);go_ret;first
  |have:Tg 2:=tg;exact⟨aZ (by rw[HR.out];rfl),by rw[HR.out];exact hR,mZ.rf _ _⟩
  |exact⟨aZ (by rw[HR.out];rfl),by rw[HR.out];exact SD.out,CQ.out⟩
def Xj (a b:Nat) (w w':World):Prop:=Below (min a b) w w'∧w'.heap.size=w.heap.size∧∀k,k≠a→k≠b→w'.heap[k]? =w.heap[k]?
theorem Xj.rf (a b:Nat) (w:World):Xj a b w w:=⟨Below.refl _ _,rfl,fun _ _ _=>rfl⟩
theorem Xj.first {a b:Nat} {w w' yT:World} (h:Xj a b w w') (k:mZ a w' yT):Xj a b w yT:=⟨h.1.trans (k.1.mono (Nat.min_le_left _ _)),k.2.1.trans h.2.1,fun i h1 h2=>(k.2.2 i h1).trans (h.2.2 i h1 h2)⟩
theorem Xj.second {a b:Nat} {w w' yT:World} (h:Xj a b w w') (k:mZ b w' yT):Xj a b w yT:=⟨h.1.trans (k.1.mono (Nat.min_le_right _ _)),k.2.1.trans h.2.1,fun i h1 h2=>(k.2.2 i h2).trans (h.2.2 i h1 h2)⟩
theorem Row.two {w w':World} {g a b:Nat} {t:TypeId} {arr:Array Value} (h:Row w g t arr) (hk:Xj a b w w') (h1:g≠a) (h2:g≠b):Row w' g t arr:=(hk.2.2 g h1 h2).trans h
theorem aeM (l:List UInt8) (hl:l.length≤1000000000) (i:Nat) (hi:i≤l.length) (b:Bool) (ga gs gi:Nat) (w:World) (hA:Row w ga 3 #[.int .i64 (i:Int)]) (hS:Row w gs 9 #[.string (aA l)]) (hI:Row w gi 4 #[.bool b]) (h1:gs≠ga) (h2:gs≠gi) (h3:gi≠ga):
 Calls Tryz.prog 69 #[.func (.func 113) #[] #[.pointer (some ⟨gi,0,none⟩)],.pointer (some ⟨ga,0,none⟩),.pointer (some ⟨gs,0,none⟩)] w fun e w'=>e= .returned (.string (aA ((l.drop i).take (bZ b (l.drop i)))))∧Row w' ga 3 #[.int .i64 ((i+bZ b (l.drop i):Nat):Int)]∧Xj ga gi w w':=by
 have HA:=hid hA;have HS:=hid hS;have HI:=hid hI;have rO:=hid (And.intro h1 (And.intro h2 h3));have HZ:=hid (aD l);have cA:=hA.cell (i:=0) rfl;have HI0:Hid (Hid (bZ b (l.drop i)=(i - i)+bZ b (l.drop i))):=hid (hid (by simp));clear hA hS hI h1 h2 h3;go_enter Tryz.func69,Tryz.ntmps69;go_wp2_with fail;go_loopg [] (l.length - i) (fun gk wr=>∃(k:Nat) (b':Bool),gk=l.length - k∧i≤k∧k≤l.length∧Hid (Row wr ga 3 #[.int .i64 (k:Int)])∧Hid (Row wr gi 4 #[.bool b'])∧Hid (Xj ga gi w wr)∧Hid (bZ b (l.drop i)=(k - i)+bZ b' (l.drop k)));case atStart=>exact⟨i,b,rfl,Nat.le_refl _,hi,HA,HI,hid (Xj.rf _ _ _),HI0.out⟩
 case round=>
  clear cA HI0 HI HA;obtain⟨k,b',rfl,XK,mE,HR,HRI,HE,HF⟩:=hrel;have cA:=HR.out.cell (i:=0) rfl;have cS:=(HS.out.two HE.out rO.out.1 rO.out.2.1).cell (i:=0) rfl;have MF:k≤(aA l).size:=by rw[HZ.out];exact mE
  by_cases bC:k < l.length
  ·obtain⟨c,hd,hg⟩:=iN bC;have jZ:k < (aA l).size:=by rw[HZ.out];exact bC
   have tM:=hg jZ;have iF:c.toNat < 256:=c.toNat_lt;have C6:=hid (aiV c b' gi _ HRI.out);have hF:=HF.out;rw[hd,Nr] at hF;generalize tC b' c=R at*;obtain⟨yes,b2⟩:=R;simp only at C6 hF;clear hd hg HF;cases yes with
   |true=>
    simp only[if_true] at hF;have HN:Hid (bZ b (l.drop i)=(k+1 - i)+bZ b2 (l.drop (k+1))):=hid (by omega);clear hF;go_wp2_with fail;refine C6.out.mono ?_;rintro e w5 ⟨rfl,pK,B1⟩;have HR5:=hid (HR.out.other B1 (Ne.symm rO.out.2.2));have aoL:=hid pK;have HE5:=hid (HE.out.second B1);have cA5:=HR5.out.cell (i:=0) rfl;clear pK B1 C6 cA cS;go_wp2_with (refine oU 0 rfl HR5.out rfl I3 ?_;intro w1 aH aB;simp[Act.eval] at aH;have SD:=hid aH;have CQ:=hid aB;clear aH aB);go_roundg (l.length - (k+1));case measure=>omega
    case rel=>exact⟨k+1,b2,rfl,by omega,by omega,hid SD.out,hid (aoL.out.other CQ.out rO.out.2.2),hid (HE5.out.first CQ.out),HN⟩
   |false=>simp only[Bool.false_eq_true,if_false,Nat.add_zero] at hF;have HX:Hid ((aA l).extract i k=aA ((l.drop i).take (bZ b (l.drop i)))):=hid (by rw[AW,hF]);have HY:Hid (i+bZ b (l.drop i)=k):=hid (by omega);clear hF;go_wp2_with fail;refine C6.out.mono ?_;rintro e w5 ⟨rfl,pK,B1⟩;have HR5:=hid (HR.out.other B1 (Ne.symm rO.out.2.2));have HE5:=hid (HE.out.second B1);have cA5:=HR5.out.cell (i:=0) rfl;have cS5:=(HS.out.two HE5.out rO.out.1 rO.out.2.1).cell (i:=0) rfl;clear pK B1 C6 cA cS;go_wp2_with fail;go_ret;exact⟨nN HX.out,by rw[HY.out];exact HR5.out,HE5.out⟩
  ·have Ec:k=l.length:=by omega
   have Ao:(aA l).size≤k:=by rw[HZ.out];omega
   have hF:=HF.out;rw[Ec,List.drop_length,Qx,Nat.add_zero,←Ec] at hF;have HX:Hid ((aA l).extract i k=aA ((l.drop i).take (bZ b (l.drop i)))):=hid (by rw[AW,hF]);have HY:Hid (i+bZ b (l.drop i)=k):=hid (by omega);clear Ec bC hF;go_wp2_with fail;go_ret;exact⟨nN HX.out,by rw[HY.out];exact HR.out,HE.out⟩
theorem JA {n:Nat} {l:List UInt8} (h:l.length≤n) (hw:bZ false (l.dropWhile aI)=0):eO n l=([],l.dropWhile aI):=by
 cases n with
 |zero=>have:l=[]:=List.length_eq_zero_iff.1 (by omega);subst this;rfl
 |succ n=>rw[eO];simp only;rw[if_pos hw]
theorem Ns {n:Nat} {l:List UInt8} (h:l.length≤n) (hw:bZ false (l.dropWhile aI)≠0):∃m,eO n l=((l.dropWhile aI).take (bZ false (l.dropWhile aI))::(eO m ((l.dropWhile aI).drop (bZ false (l.dropWhile aI)))).1,(eO m ((l.dropWhile aI).drop (bZ false (l.dropWhile aI)))).2)∧((l.dropWhile aI).drop (bZ false (l.dropWhile aI))).length≤m:=by
 have h1:=bW aI l;have h2:=zC (l.dropWhile aI) false;cases n with
 |zero=>omega
 |succ n=>refine⟨n,by rw[eO];simp only;rw[if_neg hw],?_⟩;rw[List.length_drop];omega
theorem BH:∀(n:Nat) (l:List UInt8),∃k,k≤l.length∧(eO n l).2=l.drop k:=by
 intro n;induction n with
 |zero=>intro l;exact⟨0,Nat.zero_le _,rfl⟩
 |succ n ih=>
  intro l;rw[eO];simp only;have hd:=pH aI l;have hk:(l.takeWhile aI).length≤l.length:=(List.takeWhile_sublist _).length_le;split;·exact⟨_,hk,hd⟩
  ·obtain⟨k,h1,h2⟩:=ih ((l.dropWhile aI).drop (bZ false (l.dropWhile aI)));have h3:=zC (l.dropWhile aI) false;refine⟨(l.takeWhile aI).length+bZ false (l.dropWhile aI)+k,?_,?_⟩;·rw[List.length_drop] at h1;rw[hd,List.length_drop] at h1 h3;rw[hd] at*;omega
   ·simp only;rw[h2,List.drop_drop,hd,List.drop_drop];congr 1;omega
theorem fN.same {w w':World} {base:Nat} {v:Value} {l:List ByteArray} (h:fN w base v l) (hs:∀g,base≤g→g < w.heap.size→w'.heap[g]? =w.heap[g]?):fN w' base v l:=by
 obtain⟨h1,h2⟩:=h;refine⟨h1,?_⟩;rcases h2 with h2|⟨g,cap,cur,hv,hg,hh,r⟩;·exact .inl h2
 ·exact .inr ⟨g,cap,cur,hv,hg,by rw[hs g hg (Array.getElem?_eq_some_iff.1 hh).1];exact hh,r⟩
theorem bL.two {g b:Nat} {w w' yT:World} (h:bL g w w') (hb:w.heap.size≤b) (hg:g≤b) (he:Xj g b w' yT):bL g w yT:=
 ⟨h.1.trans (he.1.mono (by rw[Nat.min_eq_left hg];exact Nat.le_refl _)),fun k hk hl=>(he.2.2 k hk (by omega)).trans (h.2 k hk hl)⟩
theorem bL.far {g:Nat} {w w' yT:World} (h:bL g w w') (hg:g≤w.heap.size) (he:Below w.heap.size w' yT):bL g w yT:=
 ⟨h.1.trans (he.mono hg),fun k hk hl=>(he.block k hl).trans (h.2 k hk hl)⟩
theorem D2 (l:List UInt8) (hl:l.length≤1000000000) (i:Nat) (hi:i≤l.length) (ga gs:Nat) (w:World) (hA:Row w ga 3 #[.int .i64 (i:Int)]) (hS:Row w gs 9 #[.string (aA l)]) (eG:gs≠ga):
 Calls Tryz.prog 73 #[.func (.func 69) #[] #[.pointer (some ⟨ga,0,none⟩),.pointer (some ⟨gs,0,none⟩)]] w fun e w'=>∃v,e= .returned v∧fN w' w.heap.size v ((bV (l.drop i)).1.map aA)∧Row w' ga 3 #[.int .i64 ((l.length - (bV (l.drop i)).2.length:Nat):Int)]∧bL ga w w':=by
 have hmf:∀(fn:Fn) (first cap:Array Value) (w:World),(Instr.makeFunc fn first cap).run Tryz.prog w= .ok (.func fn first cap) w:=fun _ _ _ _=>rfl;have HA:=hid hA;have HS:=hid hS;have rO:=hid eG;have Hf:=hid hA.lt;have HGS:=hid hS.lt;have HD:Hid (Hid (bV (l.drop i)=([]++(eO (l.length - i) (l.drop i)).1,(eO (l.length - i) (l.drop i)).2))):=hid (hid (by unfold bV;rw[List.length_drop];rfl));generalize bV (l.drop i)=R at*;clear hA hS eG;go_enter Tryz.func73,Tryz.ntmps73;go_wp2_with fail;go_loopg [3] (l.length - i) (fun gk v wr=>∃(k n:Nat) (acc:List (List UInt8)),gk=l.length - k∧k≤l.length∧acc.length≤k∧Hid ((l.drop k).length≤n)∧Hid (R=(acc++(eO n (l.drop k)).1,(eO n (l.drop k)).2))∧Hid (fN wr w.heap.size v (acc.map aA))∧Hid (Row wr ga 3 #[.int .i64 (k:Int)])∧Hid (bL ga w wr));case atStart=>exact⟨i,l.length - i,[],rfl,hi,by simp,hid (by rw[List.length_drop];omega),HD.out,hid (fN.nil _ _),HA,hid (bL.refl _ _)⟩
 case round=>
  clear HA HD;obtain⟨k,n,acc,rfl,mE,Zk,Hn,HF,HO,HR,HSV⟩:=hrel;have hrS:=HS.out.save HSV.out rO.out;have HSK:=hid (ahI l hl k mE ga gs _ HR.out hrS rO.out);have hd:=pH aI (l.drop k);have Dr:((l.drop k).takeWhile aI).length≤(l.drop k).length:=(List.takeWhile_sublist _).length_le;rw[List.drop_drop] at hd;rw[List.length_drop] at Dr;generalize ((l.drop k).takeWhile aI)=tw at*;obtain⟨k1,aaI⟩:∃k1,k1=k+tw.length:=⟨_,rfl⟩;rw[←aaI] at HSK hd;have aeN:k1≤l.length:=by omega
  have aoM:k≤k1:=by omega
  clear aaI Dr HR;go_wp2_with fail;refine HSK.out.mono ?_;rintro e w5 ⟨rfl,pK,B1⟩;have HR5:=hid pK;have aeO:=hid (HSV.out.trans (bL.of B1));have HO5:=hid (HO.out.same fun g hg hl=>B1.2.2 g (by have:=Hf.out;omega));clear pK B1 HSK HSV HO hrS;go_wp2_with (first|(refine eX rfl (mP _) ?_;intro gi w6 hri hN;have HR6:=hid (HR5.out.below hN.out.2.1);have alU:=hid (aeO.out.below hN.out.2.1 (by have:=Hf.out;have:=aeO.out.1.size;omega));have hgi:w.heap.size≤gi:=(by have:=aeO.out.1.size;have:=hN.out.1;omega);have HGI:=hid hN.out.1;have HK6:=hid (fun g (hg:g < w5.heap.size)=>hN.out.2.1.block g hg);clear hN)|(refine oU 0 rfl hri rfl I4 ?_;intro w7 aH aB;simp[Act.eval] at aH;have alV:=hid aH;have HR7:=hid (HR6.out.other aB (by have:=Hf.out;omega));have aiW:=hid (alU.out.uP hgi (by have:=Hf.out;omega) aB);have HK7:=hid (fun g (hg:g < w5.heap.size)=>(aB.2.2 g (by have:=HGI.out;omega)).trans (HK6.out g hg));clear aH aB HR6 alU HK6));have hrS:=HS.out.save aiW.out rO.out;have HSK:=hid (aeM l hl k1 aeN false ga gs gi _ HR7.out hrS alV.out rO.out (by have:=HGS.out;omega) (by have:=Hf.out;omega));have YC:=zC (l.drop k1) false;rw[List.length_drop] at YC;have rG:=JA (n:=n) Hn.out;have ER:=Ns (n:=n) Hn.out;rw[hd] at rG ER;have JV:Hid (((l.drop k1).take (bZ false (l.drop k1))).length=bZ false (l.drop k1)):=hid (by rw[List.length_take,List.length_drop];omega);have HDD:Hid ((l.drop k1).drop (bZ false (l.drop k1))=l.drop (k1+bZ false (l.drop k1))):=hid (by rw[List.drop_drop]);rw[HDD.out] at ER;generalize hwd:(l.drop k1).take (bZ false (l.drop k1))=word at*;generalize bZ false (l.drop k1)=wl at*;clear hd hwd HDD HR7 alV hrS;refine HSK.out.mono ?_;rintro e w8 ⟨rfl,hr8,JT⟩;have HR8:=hid hr8;have aeP:=hid (aiW.out.two hgi (by have:=Hf.out;omega) JT);have Km:=hid (HO5.out.same fun g hg hl=>(JT.2.2 g (by have:=Hf.out;omega) (by have:=HGI.out;omega)).trans (HK7.out g hl));clear hr8 JT HSK aiW HO5 aeO HK7 HGI;by_cases hw0:wl=0
  ·have hwe:word=[]:=List.length_eq_zero_iff.1 (by rw[JV.out];exact hw0);have hF:=HF.out;rw[rG hw0,List.append_nil] at hF;have HRF:=hid hF;have hz:(aA word).toList.isEmpty=true:=by rw[cC,hwe];rfl
   subst hw0;have HR9:Hid (Row w8 ga 3 #[.int .i64 ((l.length - (l.drop k1).length:Nat):Int)]):=hid (by rw[List.length_drop,Nat.sub_sub_self aeN];exact HR8.out);clear rG ER hF HF hwe JV;go_wp2_with fail;go_ret;exact⟨_,rfl,by rw[HRF.out];exact Km.out,by rw[HRF.out];exact HR9.out,aeP.out⟩
  ·have hwe:word≠[]:=fun e=>hw0 (by rw[←JV.out,e];rfl);obtain⟨m,VE,Rp⟩:=ER hw0;have hF:=HF.out;rw[VE] at hF;have HRF:Hid (R=((acc++[word])++(eO m (l.drop (k1+wl))).1,(eO m (l.drop (k1+wl))).2)):=hid (by rw[hF];simp);have HM:=hid Rp;have hz:(aA word).toList.isEmpty=false:=by
    rw[cC];cases word with
    |nil=>exact absurd rfl hwe
    |cons a b=>rfl
   clear rG ER hF HF hwe JV VE Rp;have alW:w.heap.size≤w8.heap.size:=aeP.out.1.size;go_wp2_with (at_builtin;refine bO rfl _ _ rfl rfl (Km.out.below (iS w8 _)) rfl (bT.one w8 _) (by simp<;>omega) (Nat.le_trans alW (by simp)) ?_;intro v9 w9 ho9 sK);have aiX:Below w.heap.size w8 w9:=((Below.refl w.heap.size w8).alloc alW _).trans sK;have HR9:=hid (HR8.out.keep aiX Hf.out);have aoN:=hid (aeP.out.far (by have:=Hf.out;omega) aiX);have HO9:Hid (fN w9 w.heap.size v9 ((acc++[word]).map aA)):=hid (by rw[List.map_append];exact ho9);clear ho9 sK aiX HR8 aeP Km;go_roundg (l.length - (k1+wl));case measure=>omega
   case rel=>exact⟨k1+wl,m,acc++[word],rfl,by omega,by simp;omega,HM,HRF,HO9,HR9,aoN⟩
end Go.Proofs.YtmgmclkplepapaaGreatDoor
