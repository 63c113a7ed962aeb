/- Part of the proof of TopBoundsUptoCardSaid. Conditions: none beyond the statement. -/
import Derived.Deep.DeepCutAuto
import Derived.Test.YtmgmclkplepapaaGreatDoorPt15
import Derived.Test.YtmgmclkplepapaaGreatDoorPt16
import Derived.Test.YtmgmclkplepapaaGreatDoorPt28
set_option linter.all false
set_option maxRecDepth 100000
set_option maxHeartbeats 64000000
namespace Go.Proofs.YtmgmclkplepapaaGreatDoor
open Go.RowKit
theorem M0:∀(m d k:Nat),d≤m→12*(fL d k).2≤12*k+d:=by
 intro m;induction m with
 |zero=>intro d k h;rw[pT (by omega)];simp
 |succ m ih=>
  intro d k h;by_cases h5:455 < d;·rw[uF h5];have:=ih (d / 35) (k+36) (by omega);omega
  ·rw[pT h5];simp
theorem SW (d n:Nat) (first:Bool) (hn:1≤n):12*tW d n first≤2*d+432:=by
 unfold tW;have key:∀x:Nat,x≤d→12*((fL (x+x / n) 0).2+36*(fL (x+x / n) 0).1 / ((fL (x+x / n) 0).1+38))≤2*d+432:=by
  intro x hx;have h1:=M0 _ (x+x / n) 0 (Nat.le_refl _);have h2:x / n≤x:=Nat.div_le_self _ _;generalize (fL (x+x / n) 0).1=a at*;have h3:36*a / (a+38)≤36:=by
   rw[Nat.div_le_iff_le_mul_add_pred (by omega)];have:(a+38)*36=36*a+38*36:=by rw[Nat.add_mul,Nat.mul_comm]
   omega
  omega
 cases first
 ·exact key (d / 2) (Nat.div_le_self _ _)
 ·exact key (d / 700) (Nat.div_le_self _ _)
theorem WD (n p sign bJ:Nat) (first:Bool) (l:List Nat):qH n p sign bJ first l []=some l:=by cases n<;>rfl
theorem SX {n p sign bJ:Nat} {first:Bool} {l:List Nat} {s:List UInt8} (h0:s≠[]) (h:Ci s bJ=none):qH (n+1) p sign bJ first l s=none:=by rw[qH,if_neg h0];simp[h]
theorem Je {n p sign bJ d k:Nat} {first:Bool} {l:List Nat} {s:List UInt8} (h0:s≠[]) (h:Ci s bJ=some (d,k)):qH (n+1) p sign bJ first l s=
 if l.length=255∨lJ (sign+(p+d) / (l.length+1))=false then none
  else qH n ((p+d) % (l.length+1)+1) (sign+(p+d) / (l.length+1)) (tW d (l.length+1) first) false
   (l.take ((p+d) % (l.length+1))++(sign+(p+d) / (l.length+1))::l.drop ((p+d) % (l.length+1))) (s.drop k):=by
 rw[qH,if_neg h0];simp[h]
def M1 (o:Option (List Nat)) (w:World) (e:Ending) (w':World):Prop:=
 ∃v,e= .returned (.tuple #[v,.bool o.isSome])∧(∀l,o=some l→tX w' v l∧l.length≤255)∧Below w.heap.size w w'
theorem qV {o:Option (List Nat)} {w w':World} (h:o=none) (hb:Below w.heap.size w w'):M1 o w (.returned (.tuple #[.slice none 0 0,.bool false])) w':=
 ⟨_,by rw[h];rfl,fun l hl=>(by rw[h] at hl;cases hl),hb⟩
theorem M2 {o:Option (List Nat)} {w w':World} {v:Value} {l:List Nat} (h:o=some l) (hr:tX w' v l) (hl:l.length≤255) (hb:Below w.heap.size w w'):M1 o w (.returned (.tuple #[v,.bool true])) w':=
 ⟨_,by rw[h];rfl,fun m hm=>(by rw[h] at hm;cases hm;exact⟨hr,hl⟩),hb⟩
theorem Jf {c:Nat} (h:lJ c=true):c≤1114111:=by unfold lJ at h;simp only[Bool.and_eq_true,decide_eq_true_eq] at h;exact h.1
structure Ax (w wr:World) (o:Option (List Nat)) (s:List UInt8) (l:List Nat) (p sign bJ:Nat) (first:Bool):Prop where
 Eu:∃n,s.length≤n∧o=qH n p sign bJ first l s
 len:l.length≤255
 pl:p≤256
 sl:sign≤1114111
 bl:bJ≤1000000000
 below:Below w.heap.size w wr
theorem Ax.step {w wr w':World} {o:Option (List Nat)} {s:List UInt8} {l:List Nat} {p sign bJ d k:Nat} {first:Bool} (h:Ax w wr o s l p sign bJ first) (h0:s≠[]) (hr:Ci s bJ=some (d,k))
 (h1:l.length≠255) (h2:lJ (sign+(p+d) / (l.length+1))=true) (hb:Below w.heap.size w w'):
 Ax w w' o (s.drop k) (l.take ((p+d) % (l.length+1))++(sign+(p+d) / (l.length+1))::l.drop ((p+d) % (l.length+1))) ((p+d) % (l.length+1)+1) (sign+(p+d) / (l.length+1)) (tW d (l.length+1) first) false:=by
 obtain⟨n,hn,ho⟩:=h.Eu;obtain⟨k1,k2,k3⟩:=KT hr;have hl:=h.len;have hm:(p+d) % (l.length+1) < l.length+1:=Nat.mod_lt _ (by omega);obtain⟨n,rfl⟩:∃m,n=m+1:=⟨n - 1,by have:0 < s.length:=List.length_pos_iff.mpr h0;omega⟩;rw[Je h0 hr,if_neg (by rw[h2];simp[h1])] at ho;have:=SW d (l.length+1) first (by omega)
 exact⟨⟨n,by rw[List.length_drop];omega,ho⟩,by simp;omega,by omega,Jf h2,by omega,hb⟩
theorem Ax.bad {w wr:World} {o:Option (List Nat)} {s:List UInt8} {l:List Nat} {p sign bJ:Nat} {first:Bool} (h:Ax w wr o s l p sign bJ first) (h0:s≠[]) (hr:Ci s bJ=none):o=none:=by obtain⟨n,hn,ho⟩:=h.Eu;obtain⟨n,rfl⟩:∃m,n=m+1:=⟨n - 1,by have:0 < s.length:=List.length_pos_iff.mpr h0;omega⟩;rw[ho,SX h0 hr]
theorem Ax.alC {w wr:World} {o:Option (List Nat)} {s:List UInt8} {l:List Nat} {p sign bJ d k:Nat} {first:Bool} (h:Ax w wr o s l p sign bJ first) (h0:s≠[]) (hr:Ci s bJ=some (d,k))
 (hb:l.length=255∨lJ (sign+(p+d) / (l.length+1))=false):o=none:=by
 obtain⟨n,hn,ho⟩:=h.Eu;obtain⟨n,rfl⟩:∃m,n=m+1:=⟨n - 1,by have:0 < s.length:=List.length_pos_iff.mpr h0;omega⟩;rw[ho,Je h0 hr,if_pos hb]
theorem Ax.all {w wr:World} {o:Option (List Nat)} {l:List Nat} {p sign bJ:Nat} {first:Bool} (h:Ax w wr o [] l p sign bJ first):o=some l:=by obtain⟨n,hn,ho⟩:=h.Eu;rw[ho,WD]
theorem Jg {q:UInt8} {s:List UInt8} {k:Nat} (h:lC q s=some k):Bl q s=(k:Int):=by unfold Bl;rw[h]
theorem SY {q:UInt8} {s:List UInt8} (h:lC q s=none):Bl q s= -1:=by unfold Bl;rw[h]
theorem WE {s:List UInt8} (h:lC 45 s=none):fQ s=qH s.length 0 128 72 true [] s:=by unfold fQ;rw[h]
theorem WG {s:List UInt8} (h:lC 45 s=some 0):fQ s=qH s.length 0 128 72 true [] s:=by unfold fQ;rw[h]
theorem WH {s:List UInt8} {i:Nat} (h:lC 45 s=some (i+1)):fQ s=if 255 < i+1∨(s.take (i+1)).any (fun c=>decide (128≤c.toNat))=true then none
 else qH s.length 0 128 72 true ((s.take (i+1)).map UInt8.toNat) (s.drop (i+2)):=by unfold fQ;rw[h]
theorem PM (s:List UInt8) (w:World) (hs:s.length≤1000000000):Calls Tryz.prog 231 #[.string (aA s)] w fun e w'=>M1 (fQ s) w e w':=by
 have HLI:=hid (fun w=>qR s 45 (by omega) w);have HZ:=hid (aD s);have S0:(∃V:Int,V≤0∧Bl 45 s=V∧fQ s=qH s.length 0 128 72 true [] s)∨(∃I:Nat,1≤I∧I+1≤s.length∧Bl 45 s=(I:Int)∧fQ s=if 255 < I∨(s.take I).any (fun c=>decide (128≤c.toNat))=true then none
  else qH s.length 0 128 72 true ((s.take I).map UInt8.toNat) (s.drop (I+1))):=by
  cases JU:lC 45 s with
  |none=>exact .inl ⟨-1,by omega,SY JU,WE JU⟩
  |some i=>
   have Um:=BU JU;cases i with
   |zero=>exact .inl ⟨0,by omega,Jg JU,WG JU⟩
   |succ i=>exact .inr ⟨i+1,by omega,by omega,Jg JU,WH JU⟩
 rcases S0 with⟨V,hV,JU,hpd⟩|⟨I,hI,hIl,JU,hpd⟩
 case' inl=>
  rw[JU] at HLI;have Mt:Hid (pB w w.heap.size (.slice none 0 0) []):=hid (pB.nil _ _);obtain⟨rest,lZ⟩:∃rest,rest=s:=⟨_,rfl⟩;have HD:Hid (Ax w w (fQ s) rest [] 0 128 72 true):=hid ⟨⟨s.length,by rw[lZ];exact Nat.le_refl _,by rw[hpd,lZ]⟩,by simp,by omega,by omega,by omega,Below.refl _ _⟩;have UC:rest.length≤1000000000:=by rw[lZ];exact hs
  have HX:Hid (aA s=aA rest):=hid (by rw[lZ]);clear JU hpd lZ;go_enter Tryz.func231,Tryz.ntmps231;go_wp2_with fail;refine(HLI.out _).mono ?_;rintro e w' ⟨rfl,rfl⟩;go_wp2_with fail;rw[HX.out]
 case' inr=>
  rw[JU] at HLI;have HP:=hid hpd;clear JU hpd;by_cases alD:255 < I
  ·have wU:fQ s=none:=by rw[HP.out,if_pos (.inl alD)]
   have HN:=hid wU;clear wU HP;go_enter Tryz.func231,Tryz.ntmps231;go_wp2_with fail;refine(HLI.out _).mono ?_;rintro e w' ⟨rfl,rfl⟩;go_wp2_with fail;go_ret2;exact qV HN.out (Below.refl _ _)
  go_enter Tryz.func231,Tryz.ntmps231;go_wp2_with fail;refine(HLI.out _).mono ?_;rintro e w' ⟨rfl,rfl⟩;go_wp2_with fail;rw[show decide (0 < I)=true by simp;omega];go_loopw [4,20] (fun a b wr=>∃(k:Nat) (m:List Nat),pB wr w.heap.size a m∧b= .int .i64 (k:Int)∧k≤I∧m.length≤k∧Hid (m=(s.take k).map UInt8.toNat∧∀c∈s.take k,c.toNat < 128)∧Hid (Below w.heap.size w wr)) (fun _ b _=>I - (intOf b).toNat)
  case' atStart=>exact⟨0,[],pB.nil _ _,rfl,Nat.zero_le _,Nat.zero_le _,hid ⟨by simp,by simp⟩,hid (Below.refl _ _)⟩
  case' round=>
   obtain⟨k,m,bE,rfl,hk,hmk,hf,dR⟩:=hrel;have rC:=dR.out.size;by_cases hkI:k < I
   ·have bC:k < s.length:=by omega
    have jZ:k < (aA s).size:=by rw[HZ.out];exact bC
    obtain⟨c,hd,hg⟩:=iN bC;have hc:=hg jZ;have Y3:s.take (k+1)=s.take k++[c]:=by rw[List.take_succ_eq_append_getElem bC];have:=hg jZ;rw[jJ] at this;rw[this]
    have iF:c.toNat < 256:=c.toNat_lt;by_cases hc8:c.toNat < 128
    ·have HF:Hid (m++[c.toNat]=(s.take (k+1)).map UInt8.toNat∧∀c∈s.take (k+1),c.toNat < 128):=hid ⟨by rw[Y3,hf.out.1];simp,by
      intro x hx;rw[Y3] at hx;rcases List.mem_append.1 hx with hx|hx;·exact hf.out.2 x hx
      ·have:x=c:=by simpa using hx
       rw[this];exact hc8⟩
     clear hd hg Y3 hf;go_wp2_with (at_builtin;refine wB wr w.heap.size _ m c.toNat rfl rfl _ _ rfl rfl bE rfl (by omega) (by omega) ?_;intro v1 w1 dJ eN);go_roundw;case rel=>exact⟨k+1,m++[c.toNat],dJ,by go_num,by omega,by simp;omega,HF,hid (dR.out.trans eN)⟩
     case measure=>simp[intOf];omega
    ·have alE:(s.take I).any (fun c=>decide (128≤c.toNat))=true:=by
      rw[List.any_eq_true];refine⟨c,?_,by simpa using hc8⟩;have h1:c∈s.take (k+1):=by rw[Y3];simp
      exact(List.take_subset_take_left s (by omega)) h1
     have wU:fQ s=none:=by rw[HP.out,if_pos (.inr alE)]
     have HN:=hid wU;clear wU HP hd hg Y3 hf alE;go_wp2_with fail;go_ret2;exact qV HN.out dR.out
   obtain rfl:k=I:=by omega
   obtain⟨ww,rfl⟩:∃ww,ww=wr:=⟨_,rfl⟩;obtain⟨V,rfl⟩:∃V,V=u4:=⟨_,rfl⟩;have ahX:fQ s=qH s.length 0 128 72 true m (s.drop (k+1)):=by
    rw[HP.out,if_neg,←hf.out.1];intro h;rcases h with h|h;·omega
    ·rw[List.any_eq_true] at h;obtain⟨c,hc,hd⟩:=h;have:=hf.out.2 c hc;simp at hd;omega
   obtain⟨rest,lZ⟩:∃rest,rest=s.drop (k+1):=⟨_,rfl⟩;rw[←lZ] at ahX;have UC:rest.length≤1000000000:=by rw[lZ,List.length_drop];omega
   have HD:Hid (Ax w ww (fQ s) rest m 0 128 72 true):=hid ⟨⟨_,by rw[lZ,List.length_drop];omega,ahX⟩,by omega,by omega,by omega,by omega,dR.out⟩;have Mt:=hid bE;obtain⟨q,hq⟩:∃q,q=k+1:=⟨_,rfl⟩;have hWq:IntKind.i64.wrap ((k:Int)+1)=(q:Int):=by rw[IntWalk.i64_in _ (by omega)];omega
   have hqs:q≤(aA s).size:=by rw[HZ.out];omega
   have hqe:(aA s).extract q (aA s).size=aA rest:=by rw[cX,hq,lZ]
   clear ahX lZ hf bE HP hq;go_wp2_with fail;clear hqe hqs hWq
 all_goals
  go_loopw [0,4,7,8,9,10] (fun a v p' sg bs fi wr=>∃(t:List UInt8) (l:List Nat) (p sign bJ:Nat) (first:Bool),a= .string (aA t)∧pB wr w.heap.size v l∧p'= .int .i64 (p:Int)∧sg= .int .i64 (sign:Int)∧bs= .int .i64 (bJ:Int)∧fi= .bool first∧t.length≤1000000000
   ∧Hid (Ax w wr (fQ s) t l p sign bJ first)) (fun a _ _ _ _ _ _=>match a with| .string x=>x.size|_=>0)
  case' atStart=>exact⟨rest,_,0,128,72,true,rfl,Mt.out,rfl,rfl,rfl,rfl,UC,HD⟩
  case' round=>
   clear Mt HD UC;obtain⟨t,l,p,sign,bJ,first,rfl,bE,rfl,rfl,rfl,rfl,As,HD⟩:=hrel;have rC:=HD.out.below.size;obtain⟨afO,apH,tF,lA,dB⟩:l.length≤255∧p≤256∧sign≤1114111∧bJ≤1000000000∧Below w.heap.size w wr:=⟨HD.out.len,HD.out.pl,HD.out.sl,HD.out.bl,HD.out.below⟩;have dR:=hid dB;clear dB;by_cases ht:t=[]
   ·subst ht;have iK:=HD.out.all;have HA:=hid iK;have HR:=hid bE.read;have he:(aA []).toList.isEmpty=true:=by rw[cC];rfl
    clear iK HD bE;go_wp2_with fail;go_ret2;exact M2 HA.out HR.out afO dR.out
   have he:(aA t).toList.isEmpty=false:=by rw[cC];cases t with|nil=>exact absurd rfl ht|cons a b=>rfl
   have HT:=hid ht;clear ht;have GJ:=hid (fun w=>VD t bJ w As lA);cases hr:Ci t bJ with
   |none=>rw[hr] at GJ;unfold Uk at GJ;simp only at GJ;have HN:=hid (HD.out.bad HT.out hr);clear hr HD;go_wp2_with fail;refine(GJ.out _).mono ?_;rintro e w' ⟨rfl,rfl⟩;go_wp2_with fail;go_ret2;exact qV HN.out dR.out
   |some x=>
    obtain⟨d,k⟩:=x;rw[hr] at GJ;unfold Uk at GJ;simp only at GJ;obtain⟨Dr,KP,hd⟩:=KT hr;have hkz:k≤(aA t).size:=by rw[aD];exact KP
    have hke:(aA t).extract k (aA t).size=aA (t.drop k):=cX t k;have zP:¬(k:Int)=0:=by omega
    obtain⟨A,C,rfl,hC⟩:=bE.read.len;obtain⟨q,hq⟩:∃q,q=(p+d) / (l.length+1):=⟨_,rfl⟩;obtain⟨r,hrr⟩:∃r,r=(p+d) % (l.length+1):=⟨_,rfl⟩;have hq':((p:Int)+(d:Int)) / ((l.length:Int)+1)=(q:Int):=by rw[hq];rfl
    have hr':((p:Int)+(d:Int)) % ((l.length:Int)+1)=(r:Int):=by rw[hrr];rfl
    have hql:q≤p+d:=by rw[hq];exact Nat.div_le_self _ _
    have aqF:r < l.length+1:=by rw[hrr];exact Nat.mod_lt _ (by omega)
    obtain⟨Z,hZ⟩:∃Z,Z=sign+q:=⟨_,rfl⟩;have hZ':(sign:Int)+(q:Int)=(Z:Int):=by omega
    by_cases RY:l.length=255
    ·have HN:=hid (HD.out.alC HT.out hr (.inl RY));have hd2:((l.length:Int)==255)=true:=by rw[RY];rfl
     clear hr HD hq hrr hZ RY;go_wp2_with fail;refine(GJ.out _).mono ?_;rintro e w' ⟨rfl,rfl⟩;go_wp2_with fail;go_ret2;exact qV HN.out dR.out
    have HI:=hid (fun w=>FG Z w);have hd2:((l.length:Int)==255)=false:=by simp;omega
    cases hsg:lJ Z with
    |false=>rw[hsg] at HI;have HN:=hid (HD.out.alC HT.out hr (.inr (by rw[←hq,←hZ];exact hsg)));clear hr HD hq hrr hZ RY hsg;go_wp2_with fail;refine(GJ.out _).mono ?_;rintro e w' ⟨rfl,rfl⟩;go_wp2_with fail;refine(HI.out _).mono ?_;rintro e w' ⟨rfl,rfl⟩;go_wp2_with fail;go_ret2;exact qV HN.out dR.out
    |true=>
     rw[hsg] at HI;have afP:=hid (fun w' hb=>HD.out.step (w':=w') HT.out hr RY (by rw[←hq,←hZ];exact hsg) hb);rw[←hq,←hrr,←hZ] at afP;have anX:=hid (R3 wr w.heap.size r Z _ l bE rC (by omega) (by omega));have HNB:=hid (fun W=>Cm d (l.length+1) first (by omega) (by omega) (by omega) W);have hln:(l.take r++Z::l.drop r).length=l.length+1:=by simp;omega
     have Uj:=Jf hsg;have CL:(t.drop k).length≤1000000000:=by rw[List.length_drop];omega
     have hme:(aA (t.drop k)).size < (aA t).size:=by rw[aD,aD,List.length_drop];rw[aD] at hkz;omega
     have HME:=hid hme;have HLN:=hid hln;clear hr HD hq hrr hZ RY hsg bE hln hme;go_wp2_with fail;refine(GJ.out _).mono ?_;rintro e w' ⟨rfl,rfl⟩;go_wp2_with fail;refine(HI.out _).mono ?_;rintro e w' ⟨rfl,rfl⟩;go_wp2_with fail;refine anX.out.mono ?_;rintro e w4 ⟨v4,rfl,OD,cG⟩;have fG:=hid (dR.out.trans cG);have HR4:=hid OD;obtain⟨A4,C4,hv4,hC4⟩:=OD.read.len;rw[HLN.out] at hv4 hC4;subst hv4;clear cG OD;have gW:((l.length+1:Nat):Int)=(l.length:Int)+1:=by simp
     go_wp2_with fail;refine(HNB.out _).mono ?_;rintro e w' ⟨rfl,rfl⟩;go_wp2_with fail;go_roundw;case rel=>exact⟨t.drop k,l.take r++Z::l.drop r,r+1,Z,tW d (l.length+1) first,false,rfl,HR4.out,by go_num,rfl,rfl,rfl,CL,hid (afP.out w4 fG.out)⟩
     case measure=>exact HME.out
def ahY (o:Option Nat):Value:=match o with
 |none=> .tuple #[.float .f64 0,.bool false]
 |some f=> .tuple #[.float .f64 f,.bool true]
theorem Lo (n:Nat) (W:World):(convert 3 90 (.int .i64 (n:Int))).run Tryz.prog W= .ok (.float .f64 (vX n)) W:=by
 have h:=run_convert_int_float (P:=Tryz.prog) W 3 90 .i64 .f64 (n:Int) (by rw[Tryz.underlying3];rfl) Tryz.underlying90;rw[h];have:floatOfInt FloatKind.f64 (n:Int)=vX n:=by
  show Ieee.double.nearest (decide ((n:Int) < 0)) (n:Int).natAbs 0=Ieee.double.nearest false n 0;have e:decide ((n:Int) < 0)=false:=by simp
  rw[e];rfl
 rw[this]
theorem M3 (t:List UInt8):zG (45::t)=CG true t:=rfl
theorem PN {s:List UInt8} (h:([45]:List UInt8).isPrefixOf s=false):zG s=CG false s:=by
 cases s with
 |nil=>rfl
 |cons c t=>
  have hc:c≠45:=fun e=>by subst e;cases h
  unfold zG;rw[if_neg (by simpa using hc)]
theorem WI:∀(s:List UInt8) (n m:Nat),uS n s=some m→m+1≤(n+1)*10 ^ s.length:=by
 intro s;induction s with
 |nil=>intro n m h;cases h;simp
 |cons c t ih=>
  intro n m h;rw[wM] at h;cases hd:nJ c 10 with
  |none=>rw[hd] at h;cases h
  |some d=>rw[hd] at h;have CL:=zX hd;have h1:=ih _ m h;rw[List.length_cons,Nat.pow_succ];refine Nat.le_trans h1 ?_;rw[Nat.mul_comm (10 ^ t.length) 10,←Nat.mul_assoc];refine Nat.mul_le_mul_right _ ?_;split<;>omega
theorem Lp {s:List UInt8} {m:Nat} (h:fJ s=some m) (h4:s.length≤4):m≤9999:=by
 unfold fJ at h;split at h;·cases h
 ·have h1:=WI s 0 m h;have h2:10 ^ s.length≤10 ^ 4:=Nat.pow_le_pow_right (by omega) h4;omega
theorem adN {s:List UInt8} {m:Int} (h:AU s=some m): -9999≤m∧m≤9999:=by
 unfold AU at h;split at h
 ·split at h;·cases h
  ·obtain⟨n,hn,rfl⟩:=Option.map_eq_some_iff.1 h;cases hq:fJ (s.drop 1) with
   |none=>rw[hq] at hn;cases hn
   |some a=>rw[hq] at hn;have:=Lp hq (by omega);cases hn;omega
 ·split at h;·cases h
  ·obtain⟨n,hn,rfl⟩:=Option.map_eq_some_iff.1 h;cases hq:fJ (iI [43] s) with
   |none=>rw[hq] at hn;cases hn
   |some a=>rw[hq] at hn;have:=Lp hq (by omega);cases hn;omega
theorem pH (p:UInt8→Bool) (l:List UInt8):l.dropWhile p=l.drop (l.takeWhile p).length:=by
 induction l with
 |nil=>rfl
 |cons c t ih=>
  cases h:p c with
  |true=>rw[List.dropWhile_cons_of_pos h,List.takeWhile_cons_of_pos h,List.length_cons,List.drop_succ_cons,ih]
  |false=>rw[List.dropWhile_cons_of_neg (by simp[h]),List.takeWhile_cons_of_neg (by simp[h])];rfl
theorem Ct (p:UInt8→Bool) (l:List UInt8):l.takeWhile p=l.take (l.takeWhile p).length:=by
 induction l with
 |nil=>rfl
 |cons c t ih=>
  cases h:p c with
  |true=>rw[List.takeWhile_cons_of_pos h,List.length_cons,List.take_succ_cons,←ih]
  |false=>rw[List.takeWhile_cons_of_neg (by simp[h])];rfl
theorem WJ:(⟨#[46]⟩:ByteArray)=aA [46]:=rfl
theorem M4 (s:List UInt8) (hs:s.length≤1000000000) (w:World) (hW:Laid w):Calls Tryz.prog 154 #[.string (aA s)] w fun e w'=>e= .returned (ahY (zG s))∧Below w.heap.size w w':=by
 have HW:=hid hW;obtain⟨t,b,HC,HE,ht⟩:∃t b,Hid (∀w,Calls Tryz.prog 118 #[.string (aA s),.string (aA [45])] w fun e w'=>e= .returned (.tuple #[.string (aA t),.bool b])∧w=w')∧Hid (zG s=CG b t)∧t.length≤s.length:=by
  cases hp:([45]:List UInt8).isPrefixOf s with
  |true=>
   obtain⟨t,rfl⟩:∃t,s=45::t:=by
    cases s with
    |nil=>cases hp
    |cons c t=>simp at hp;exact⟨t,by rw[hp]⟩
   exact⟨t,true,hid (fun w=>jA (45::t) [45] rfl w),hid (M3 t),by simp⟩
  |false=>exact⟨s,false,hid (fun w=>jY s [45] hp w),hid (PN hp),Nat.le_refl _⟩
 generalize zG s=R at*;generalize aA s=s' at*;have HIX:=hid (fun w=>MZ t (by omega) w);have HK:=hid (Ct (fun c=> !BQ c) t);have HD:=hid (pH (fun c=> !BQ c) t);have mE:(t.takeWhile fun c=> !BQ c).length≤t.length:=(List.takeWhile_sublist _).length_le;have hzt:=aD t;have IY:t.length≤1000000000:=by omega
 clear hW ht hs;have HB:Hid (Below w.heap.size w w):=hid (Below.refl _ _);go_enter Tryz.func154,Tryz.ntmps154;go_wp2_with fail;refine(HC.out _).mono ?_;rintro e w5 ⟨rfl,rfl⟩;go_wp2_with fail;refine(HIX.out _).mono ?_;rintro e w5 ⟨rfl,aM⟩;replace HB:=aR HB aM;clear aM HC HIX;generalize rL:XM t=ix;have HX:=hid rL;clear rL;go_upto_if 23 with fail
 go_cut [0,5] (fun s0 s5 wc=>∃(x:List UInt8) (m:Int),s0= .string (aA x)∧s5= .int .i64 m∧x.length≤1000000000∧ -9999≤m∧m≤9999∧Hid (R=uK b m x)∧Hid (Below w.heap.size w wc));case first=>
  cases ha:t.any BQ with
  |false=>
   have hx:=HX.out;unfold XM at hx;rw[ha] at hx;simp only[Bool.false_eq_true,if_false] at hx;subst hx;have HR:Hid (R=uK b 0 t):=hid (HE.out.trans (by unfold CG;rw[ha];rfl));clear ha HX HK HD HE mE hzt;go_wp2_with fail
   go_meet
   case rel=>exact⟨t,0,rfl,rfl,IY,by omega,by omega,HR,HB⟩
  |true=>
   have hx:=HX.out;unfold XM at hx;rw[ha] at hx;simp only[if_true] at hx;subst hx;have hEE:R=match AU ((t.dropWhile fun c=> !BQ c).drop 1) with|none=>none|some m=>uK b m (t.takeWhile fun c=> !BQ c):=HE.out.trans (by unfold CG;rw[ha];rfl)
   rw[HD.out,List.drop_drop] at hEE;have hte:(t.takeWhile fun c=> !BQ c)=t.take (t.takeWhile fun c=> !BQ c).length:=HK.out;generalize hk:(t.takeWhile fun c=> !BQ c).length=k at*;rw[hte] at hEE;have hkt:k < t.length:=by
    rcases Nat.lt_or_ge k t.length with h|h;·exact h
    ·exfalso;rw[List.take_of_length_le h] at hte;rw[List.any_eq_true] at ha;obtain⟨c,Od,Gm⟩:=ha;rw[←hte] at Od;have iK:(t.takeWhile fun c=> !BQ c).all (fun c=> !BQ c)=true:=List.all_takeWhile;have:=List.all_eq_true.1 iK c Od;simp[Gm] at this
   have e1:(aA t).extract (k+1) (aA t).size=aA (t.drop (k+1)):=cX t (k+1);have e2:(aA t).extract 0 k=aA (t.take k):=jX t k;have z1:k+1≤(aA t).size:=by omega
   have z2:(aA t).size≤1000000000:=by omega
   have HEX:=hid (fun W=>GK (t.drop (k+1)) (by rw[List.length_drop];omega) W);have HTL:Hid ((t.take k).length≤1000000000):=hid (by rw[List.length_take];omega);have HTE:=hid hte;clear ha HX HK HD HE mE hk hzt hte;cases hm:AU (t.drop (k+1)) with
   |none=>rw[hm] at hEE HEX;have HR:=hid hEE;simp only[ahE] at HEX;clear hEE hm;go_wp2_with fail;refine(HEX.out _).mono ?_;rintro e w5 ⟨rfl,rfl⟩;go_wp2_with fail;go_ret2;exact⟨hY (by rw[HR.out];rfl),HB.out⟩
   |some m=>
    have hmb:=adN hm;rw[hm] at hEE HEX;have HR:Hid (R=uK b m (t.take k)):=hid hEE;simp only[ahE] at HEX;clear hEE hm;go_wp2_with fail;refine(HEX.out _).mono ?_;rintro e w5 ⟨rfl,rfl⟩;go_wp2_with fail
    go_meet
    case rel=>exact⟨t.take k,m,by rw[←e2],rfl,HTL.out,hmb.1,hmb.2,HR,HB⟩
 case rest=>
  obtain⟨x,m,rfl,rfl,hx,VE,Rp,HR0,HB⟩:=hcut;clear HE HX HK HD mE hzt IY;have H1:=hid (fun W hW=>oH x 46 (by omega) W hW);have h1:=sO 46 x;have ZJ:Hid (R=if((bM 46 x).2.2=true∧(bM 46 x).2.1=[])∨15 < (bM 46 x).1.length+(bM 46 x).2.1.length then none
   else match fJ ((bM 46 x).1++(bM 46 x).2.1) with
    |none=>none
    |some n=>if m - ((bM 46 x).2.1.length:Int) < -22∨22 < m - ((bM 46 x).2.1.length:Int) then none
     else some (if b&&n !=0 then Vd (Am (vX n) (m - ((bM 46 x).2.1.length:Int))) else Am (vX n) (m - ((bM 46 x).2.1.length:Int)))):=hid HR0.out
  clear HR0;have FW:(bM 46 x).2.1.length≤x.length:=(DO 46 x).2;generalize bM 46 x=z at*;obtain⟨wh,pt,alF⟩:=z;simp only at H1 h1 ZJ FW;have YC:wh.length≤x.length:=by omega
  have hzp:=aD pt;have hzw:=aD wh;have HZP:=hid hzp;have hps:(aA pt).size≤1000000000:=by omega
  have hws:(aA wh).size≤1000000000:=by omega
  have akA:(aA wh)++(aA pt)=aA (wh++pt):=(iM _ _).symm;have hqe:=cC pt;have HZ:=hid (And.intro hzp hzw);clear hzp hzw;go_wp2_with fail;rw[WJ];refine(H1.out _ (HW.out.below HB.out HW.out.size)).mono ?_;rintro e w5 ⟨rfl,aM⟩;replace HB:=aR HB aM;clear aM H1 h1;have H15:=hid (Nat.lt_or_ge 15 (wh.length+pt.length));cases alF with
  |true=>
   cases hq:pt.isEmpty with
   |true=>
    have HR:Hid (R=none):=hid (ZJ.out.trans (if_pos (Or.inl ⟨rfl,List.isEmpty_iff.1 hq⟩)));have Kj:(aA pt).toList.isEmpty=true:=by rw[hqe];exact hq
    clear ZJ hqe hq;go_wp2_with fail;go_ret2;exact⟨hY (by rw[HR.out];rfl),HB.out⟩
   |false=>
    have Kj:(aA pt).toList.isEmpty=false:=by rw[hqe];exact hq
    have eG:pt≠[]:=fun e=>by rw[e] at hq;cases hq
    clear hqe hq;rcases H15.out with rJ|rJ
    ·have HR:Hid (R=none):=hid (ZJ.out.trans (if_pos (Or.inr rJ)));have ND:decide ((15:Int) < ((aA wh).size:Int)+((aA pt).size:Int))=true:=by have:=HZ.out;simp;omega
     clear eG;clear ZJ H15 rJ;go_wp2_with fail;go_ret2;exact⟨hY (by rw[HR.out];rfl),HB.out⟩
    ·have Eh:=hid (ZJ.out.trans (if_neg (fun h=>h.elim (fun h=>eG h.2) (fun h=>by omega))));have ND:decide ((15:Int) < ((aA wh).size:Int)+((aA pt).size:Int))=false:=by have:=HZ.out;simp;omega
     have alG:pt.length≤15:=by omega
     have HN:=hid (fun W=>oT (wh++pt) (by rw[List.length_append];omega) W);clear eG;clear ZJ H15 rJ;cases hw:fJ (wh++pt) with
     |none=>have HR:Hid (R=none):=hid (Eh.out.trans (by rw[hw]));rw[hw] at HN;simp only[vG] at HN;clear hw Eh;go_wp2_with fail;refine(HN.out _).mono ?_;rintro e w5 ⟨rfl,rfl⟩;go_wp2_with fail;go_ret2;exact⟨hY (by rw[HR.out];rfl),HB.out⟩
     |some n=>
      rw[hw] at HN Eh;simp only[vG] at HN Eh;have anY:=BW hw;have hms:IntKind.i64.wrap (m - ((aA pt).size:Int))=m - (pt.length:Int):=by rw[HZP.out];exact IntWalk.i64_in _ (by omega)
      have hmb: -200000≤m - (pt.length:Int)∧m - (pt.length:Int)≤200000:=by omega
      clear hw;generalize m - (pt.length:Int)=mm at*;by_cases hr:mm < -22∨22 < mm
      ·have HR:Hid (R=none):=hid (Eh.out.trans (if_pos hr));clear Eh;by_cases aH:mm < -22
       ·have hd1:decide (mm < -22)=true:=by simpa using aH
        go_wp2_with fail;refine(HN.out _).mono ?_;rintro e w5 ⟨rfl,rfl⟩;go_wp2_with fail;go_ret2;exact⟨hY (by rw[HR.out];rfl),HB.out⟩
       ·have hd1:decide (mm < -22)=false:=by simpa using aH
        have hd2:decide (22 < mm)=true:=by simp;omega
        go_wp2_with fail;refine(HN.out _).mono ?_;rintro e w5 ⟨rfl,rfl⟩;go_wp2_with fail;go_ret2;exact⟨hY (by rw[HR.out];rfl),HB.out⟩
      ·have hd1:decide (mm < -22)=false:=by simp;omega
       have hd2:decide (22 < mm)=false:=by simp;omega
       have S1:=Eh.out;rw[if_neg hr] at S1;have G3:∀W,(convert 3 90 (.int .i64 (n:Int))).run Tryz.prog W= .ok (.float .f64 (vX n)) W:=Lo n;have HMV:=hid (fun W=>FY (vX n) mm (Ux n) (by omega) (by omega) W);generalize vX n=wf at*;generalize Am wf mm=mv at*;have hng:Op.unary .neg (.float .f64 mv)=pure (.float .f64 (Vd mv)):=rfl;generalize Vd mv=ng at*;clear Eh hmb;cases b with
       |false=>have HR:Hid (R=some mv):=hid (S1.trans (by simp));clear S1;go_wp2_with fail;refine(HN.out _).mono ?_;rintro e w5 ⟨rfl,rfl⟩;go_wp2_with fail;refine(HMV.out _).mono ?_;rintro e w5 ⟨rfl,rfl⟩;go_wp2_with fail;go_ret2;exact⟨hY (by rw[HR.out];rfl),HB.out⟩
       |true=>
        by_cases sE:n=0
        ·have HR:Hid (R=some mv):=hid (S1.trans (by simp[sE]));have Kj:((n:Int)!=0)=false:=by simp[sE]
         clear S1 sE;go_wp2_with fail;refine(HN.out _).mono ?_;rintro e w5 ⟨rfl,rfl⟩;go_wp2_with fail;refine(HMV.out _).mono ?_;rintro e w5 ⟨rfl,rfl⟩;go_wp2_with fail;go_ret2;exact⟨hY (by rw[HR.out];rfl),HB.out⟩
        ·have HR:Hid (R=some ng):=hid (S1.trans (by simp[sE]));have Kj:((n:Int)!=0)=true:=by simp[sE]
         clear S1 sE;go_wp2_with fail;refine(HN.out _).mono ?_;rintro e w5 ⟨rfl,rfl⟩;go_wp2_with fail;refine(HMV.out _).mono ?_;rintro e w5 ⟨rfl,rfl⟩;go_wp2_with fail;go_ret2;exact⟨hY (by rw[HR.out];rfl),HB.out⟩
  |false=>
   clear hqe;rcases H15.out with rJ|rJ
   ·have HR:Hid (R=none):=hid (ZJ.out.trans (if_pos (Or.inr rJ)));have ND:decide ((15:Int) < ((aA wh).size:Int)+((aA pt).size:Int))=true:=by have:=HZ.out;simp;omega
    clear ZJ H15 rJ;go_wp2_with fail;go_ret2;exact⟨hY (by rw[HR.out];rfl),HB.out⟩
   ·have Eh:=hid (ZJ.out.trans (if_neg (fun h=>h.elim (fun h=>Bool.noConfusion h.1) (fun h=>by omega))));have ND:decide ((15:Int) < ((aA wh).size:Int)+((aA pt).size:Int))=false:=by have:=HZ.out;simp;omega
    have alG:pt.length≤15:=by omega
    have HN:=hid (fun W=>oT (wh++pt) (by rw[List.length_append];omega) W);clear ZJ H15 rJ;cases hw:fJ (wh++pt) with
    |none=>have HR:Hid (R=none):=hid (Eh.out.trans (by rw[hw]));rw[hw] at HN;simp only[vG] at HN;clear hw Eh;go_wp2_with fail;refine(HN.out _).mono ?_;rintro e w5 ⟨rfl,rfl⟩;go_wp2_with fail;go_ret2;exact⟨hY (by rw[HR.out];rfl),HB.out⟩
    |some n=>
     rw[hw] at HN Eh;simp only[vG] at HN Eh;have anY:=BW hw;have hms:IntKind.i64.wrap (m - ((aA pt).size:Int))=m - (pt.length:Int):=by rw[HZP.out];exact IntWalk.i64_in _ (by omega)
     have hmb: -200000≤m - (pt.length:Int)∧m - (pt.length:Int)≤200000:=by omega
     clear hw;generalize m - (pt.length:Int)=mm at*;by_cases hr:mm < -22∨22 < mm
     ·have HR:Hid (R=none):=hid (Eh.out.trans (if_pos hr));clear Eh;by_cases aH:mm < -22
      ·have hd1:decide (mm < -22)=true:=by simpa using aH
       go_wp2_with fail;refine(HN.out _).mono ?_;rintro e w5 ⟨rfl,rfl⟩;go_wp2_with fail;go_ret2;exact⟨hY (by rw[HR.out];rfl),HB.out⟩
      ·have hd1:decide (mm < -22)=false:=by simpa using aH
       have hd2:decide (22 < mm)=true:=by simp;omega
       go_wp2_with fail;refine(HN.out _).mono ?_;rintro e w5 ⟨rfl,rfl⟩;go_wp2_with fail;go_ret2;exact⟨hY (by rw[HR.out];rfl),HB.out⟩
     ·have hd1:decide (mm < -22)=false:=by simp;omega
      have hd2:decide (22 < mm)=false:=by simp;omega
      have S1:=Eh.out;rw[if_neg hr] at S1;have G3:∀W,(convert 3 90 (.int .i64 (n:Int))).run Tryz.prog W= .ok (.float .f64 (vX n)) W:=Lo n;have HMV:=hid (fun W=>FY (vX n) mm (Ux n) (by omega) (by omega) W);generalize vX n=wf at*;generalize Am wf mm=mv at*;have hng:Op.unary .neg (.float .f64 mv)=pure (.float .f64 (Vd mv)):=rfl;generalize Vd mv=ng at*;clear Eh hmb;cases b with
      |false=>have HR:Hid (R=some mv):=hid (S1.trans (by simp));clear S1;go_wp2_with fail;refine(HN.out _).mono ?_;rintro e w5 ⟨rfl,rfl⟩;go_wp2_with fail;refine(HMV.out _).mono ?_;rintro e w5 ⟨rfl,rfl⟩;go_wp2_with fail;go_ret2;exact⟨hY (by rw[HR.out];rfl),HB.out⟩
      |true=>
       by_cases sE:n=0
       ·have HR:Hid (R=some mv):=hid (S1.trans (by simp[sE]));have Kj:((n:Int)!=0)=false:=by simp[sE]
        clear S1 sE;go_wp2_with fail;refine(HN.out _).mono ?_;rintro e w5 ⟨rfl,rfl⟩;go_wp2_with fail;refine(HMV.out _).mono ?_;rintro e w5 ⟨rfl,rfl⟩;go_wp2_with fail;go_ret2;exact⟨hY (by rw[HR.out];rfl),HB.out⟩
       ·have HR:Hid (R=some ng):=hid (S1.trans (by simp[sE]));have Kj:((n:Int)!=0)=true:=by simp[sE]
        clear S1 sE;go_wp2_with fail;refine(HN.out _).mono ?_;rintro e w5 ⟨rfl,rfl⟩;go_wp2_with fail;refine(HMV.out _).mono ?_;rintro e w5 ⟨rfl,rfl⟩;go_wp2_with fail;go_ret2;exact⟨hY (by rw[HR.out];rfl),HB.out⟩
end Go.Proofs.YtmgmclkplepapaaGreatDoor
