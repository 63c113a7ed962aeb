/- Part of the proof of TopBoundsUptoCardSaid. Conditions: none beyond the statement. -/
import Derived.Test.YtmgmclkplepapaaGreatDoorPt14
set_option linter.all false
set_option maxRecDepth 100000
set_option maxHeartbeats 64000000
namespace Go.Proofs.YtmgmclkplepapaaGreatDoor
open Go.RowKit
theorem RV:∀(m d k:Nat),d≤m→(fL d k).2≤k+d:=by
 intro m;induction m with
 |zero=>intro d k h;rw[pT (by omega)];simp
 |succ m ih=>
  intro d k h;by_cases h5:455 < d;·rw[uF h5];have:=ih (d / 35) (k+36) (by omega);omega
  ·rw[pT h5];simp
theorem YA (d n:Nat) (first:Bool) (hn:1≤n):tW d n first≤2*d+36:=by
 unfold tW;have key:∀x:Nat,x≤d→(fL (x+x / n) 0).2+36*(fL (x+x / n) 0).1 / ((fL (x+x / n) 0).1+38)≤2*d+36:=by
  intro x hx;have h1:=RV _ (x+x / n) 0 (Nat.le_refl _);have h2:x / n≤x:=Nat.div_le_self _ _;generalize (fL (x+x / n) 0).1=a at*;have h3:36*a / (a+38)≤36:=by
   rw[Nat.div_le_iff_le_mul_add_pred (by omega)];have:(a+38)*36=36*a+38*36:=by rw[Nat.add_mul,Nat.mul_comm]
   omega
  omega
 cases first
 ·exact key (d / 2) (Nat.div_le_self _ _)
 ·exact key (d / 700) (Nat.div_le_self _ _)
theorem RW:fP []=[]:=rfl
theorem VQ {r:Nat} {l:List Nat} (h:r < 128):fP (r::l)=UInt8.ofNat r::fP l:=by unfold fP;simp[h]
theorem VR {r:Nat} {l:List Nat} (h:¬r < 128):fP (r::l)=fP l:=by unfold fP;simp[h]
theorem VS (l:List Nat):(fP l).length≤l.length:=by have:=yY l;omega
theorem RX {l:List Nat} {n sign:Nat} {s:PSt} (h:¬s.done < l.length):tG l n sign s=s:=by
 cases n with
 |zero=>rfl
 |succ n=>rw[tG,if_neg h]
theorem OB {l:List Nat} {n sign m:Nat} {s:PSt} (h:s.done < l.length) (hm:Hj l sign=some m):
 tG l (n+1) sign s=tG l n (m+1) {l.foldl (pL m) {s with d:=s.d+(m - sign)*(s.done+1)} with d:=(l.foldl (pL m) {s with d:=s.d+(m - sign)*(s.done+1)}).d+1}:=by
 rw[tG,if_pos h];simp only[hm,Option.getD_some]
theorem YB {c:Nat} (h:c < 128):(c:Int)=((UInt8.ofNat c).toNat:Int):=by rw[UInt8.toNat_ofNat_of_lt' (by show c < 256;omega)]
theorem EN (v:Value) (l:List Nat) (w:World) (hv:tX w v l) (hl:255 < l.length) (RY:l.length≤1000000000):
 Calls Tryz.prog 233 #[v] w fun e w'=>e= .returned (.tuple #[.string (aA []),.bool false])∧w=w':=by
 obtain⟨a,c,rfl,hc⟩:=hv.len;go_enter Tryz.func233,Tryz.ntmps233;go_wp2_with fail;go_ret2;exact⟨rfl,rfl⟩
theorem OC (v:Value) (l:List Nat) (w:World) (hv:tX w v l) (hl:l.length≤255) (hls:∀c∈l,c≤128511∧lJ c=true):
 Calls Tryz.prog 233 #[v] w fun e w'=>e= .returned (.tuple #[.string (aA (CB l)),.bool true])∧Below w.heap.size w w':=by
 have HV:=hid hv;have HS:=hid hls;obtain⟨A,C,rfl,hc⟩:=hv.len;clear hv hls;have Az:∀k,(h:k < l.length)→∀wr,Below w.heap.size w wr→∃g off,A=some ⟨g,off,none⟩∧wr.cell? ⟨g,off+k,none⟩=some (.int .i64 (l[k]:Int)):=by intro k h wr hb;obtain⟨g,off,c,he,_,aW⟩:=(HV.out.below hb).form (by intro e;rw[e] at h;simp at h);injection he with h1 h2 h3;exact⟨g,off,h1,aW k h⟩
 have HG:=hid Az;clear Az;go_enter Tryz.func233,Tryz.ntmps233;go_wp2_with fail;go_loopw [4,20] (fun a b wr=>∃(k:Nat) (m:List UInt8),fC wr w.heap.size a m∧b= .int .i64 (k:Int)∧k≤l.length∧m.length≤k∧Hid (fP l=m++fP (l.drop k))∧Below w.heap.size w wr) (fun _ b _=>l.length - (intOf b).toNat);case atStart=>exact⟨0,[],fC.nil _ _,rfl,Nat.zero_le _,Nat.zero_le _,hid (by simp),Below.refl _ _⟩
 case round=>
  obtain⟨k,m,bE,rfl,hk,hmk,hf,dB⟩:=hrel;have dR:=hid dB;have rC:=dB.size;clear dB;by_cases bC:k < l.length
  ·obtain⟨g,off,rfl,aW⟩:=HG.out k bC wr dR.out;have nW:=hf.out;rw[List.drop_eq_getElem_cons bC] at nW;have Co:=HS.out l[k] (List.getElem_mem bC);generalize l[k]=x at*;obtain⟨uX,B8⟩:=Co;have HI:=hid (fun w=>FG x w);rw[B8] at HI;clear B8;by_cases hx:x < 128
   ·rw[VQ hx] at nW;have HF:=hid nW;clear hf nW;go_wp2_with fail;refine(HI.out _).mono ?_;rintro e w' ⟨rfl,rfl⟩;go_wp2_with (at_builtin;refine cJ wr w.heap.size _ m (UInt8.ofNat x) (YB hx) rfl _ _ rfl rfl bE rfl (by omega) (by omega) ?_;intro v1 w1 dJ eN);go_roundw;case rel=>exact⟨k+1,m++[UInt8.ofNat x],dJ,by go_num,by omega,by simp;omega,hid (by rw[HF.out];simp),dR.out.trans eN⟩
    case measure=>simp[intOf];omega
   ·rw[VR hx] at nW;have HF:=hid nW;clear hf nW;go_wp2_with fail;refine(HI.out _).mono ?_;rintro e w' ⟨rfl,rfl⟩;go_wp2_with fail;go_roundw;case rel=>exact⟨k+1,m,bE,by go_num,by omega,by omega,HF,dR.out⟩
    case measure=>simp[intOf];omega
  ·obtain rfl:k=l.length:=by omega
   have nW:=hf.out;rw[List.drop_length,RW,List.append_nil] at nW;have HF:=hid nW;clear hf nW;have apF:m.length+eK l 128=l.length:=by have:=yY l;rw[HF.out] at this;exact this
   have HEN:Hid (CB l=(tG l l.length 128 ⟨0,72,true,m.length,qB l⟩).out):=hid (by unfold CB;rw[HF.out]);obtain⟨a0,c0,rfl⟩:=bE.len;by_cases hm0:m=[]
   case' pos=>
    have hh:qB l=[]:=by unfold qB;rw[HF.out,if_pos hm0]
    subst hm0;have Mt:Hid (fC wr w.heap.size (.slice a0 0 c0) (qB l)):=hid (by rw[hh];exact bE);clear bE;simp only[List.length_nil] at*;obtain⟨ww,rfl⟩:∃ww,ww=wr:=⟨wr,rfl⟩;have HH:=hid hh;have hhl:(qB l).length≤256:=by rw[hh];simp
    clear hh;have HM:Hid ((fP l).length=0):=hid (by rw[HF.out];rfl);go_wp2_with fail
   case' neg=>
    have hh:qB l=m++[45]:=by unfold qB;rw[HF.out,if_neg hm0]
    have hmp:0 < m.length:=List.length_pos_iff.mpr hm0;have hhl:(qB l).length≤256:=by rw[hh];simp;omega
    have HM:Hid ((fP l).length=m.length):=hid (by rw[HF.out]);go_wp2_with (at_builtin;refine cJ wr w.heap.size _ m 45 rfl rfl _ _ rfl rfl bE rfl (by omega) (by omega) ?_;intro v1 ww dJ eN;rw[←hh] at dJ;have Mt:=hid dJ;replace dR:=hid (dR.out.trans eN);clear bE dJ eN hh)
   all_goals
    go_loopw [4,7,8,9,10,11] (fun a dn d sg bs fi wr=>∃(n:Nat) (s:PSt) (sign:Nat),fC wr w.heap.size a s.out∧dn= .int .i64 (s.done:Int)∧d= .int .i64 (s.d:Int)∧sg= .int .i64 (sign:Int)∧bs= .int .i64 (s.bJ:Int)∧fi= .bool s.first
     ∧Hid (CB l=(tG l n sign s).out)∧Hid (s.done+eK l sign=l.length∧eK l sign≤n)∧s.done≤l.length∧n≤l.length∧s.d≤256∧s.bJ≤100000000∧s.out.length+2040*n≤256+2040*255∧sign≤128512∧Hid (Below w.heap.size w wr)) (fun _ dn _ _ _ _ _=>l.length - (intOf dn).toNat)
    case atStart=>
     refine⟨l.length,⟨0,72,true,(fP l).length,qB l⟩,128,Mt.out,by rw[HM.out];try rfl,rfl,rfl,rfl,rfl,hid (by rw[HEN.out,HM.out];try rfl),hid ⟨?_,?_⟩,?_,Nat.le_refl _,by show(0:Nat)≤256;omega,by show(72:Nat)≤_;omega,?_,by omega,dR⟩;·show(fP l).length+eK l 128=l.length;rw[HM.out];omega
     ·omega
     ·show(fP l).length≤_;rw[HM.out];omega
     ·show(qB l).length+_≤_;omega
    case round=>
     clear Mt HM HEN HF dR rC;obtain⟨n,⟨d,bJ,first,done,out⟩,sign,bE,rfl,rfl,rfl,rfl,rfl,hE,hA,CL,hn,JQ,FH,RZ,K9,abY⟩:=hrel;simp only at bE hE hA CL JQ FH RZ;have abX:=abY.out.size;by_cases bC:done < l.length
     ·obtain⟨q,hq,hql,yX,LV⟩:=KI l sign (by have:=hA.out.1;omega);have hqb:=(HS.out q hql).1;obtain⟨n,rfl⟩:∃k,n=k+1:=⟨n - 1,by have:=hA.out;omega⟩;have hE':=hE.out;rw[OB bC hq] at hE';simp only at hE';have hmul:(q - sign)*(done+1)≤128511*256:=Nat.mul_le_mul (by omega) (by omega);obtain⟨D,hD⟩:∃D,D=d+(q - sign)*(done+1):=⟨_,rfl⟩;have hpr:((q:Int) - (sign:Int))*((done:Int)+1)=(((q - sign)*(done+1):Nat):Int):=by rw[Int.natCast_mul,Int.ofNat_sub yX];rfl
      have hDI:(d:Int)+((q:Int) - (sign:Int))*((done:Int)+1)=(D:Int):=by rw[hpr,hD];simp
      have VT:0≤((q:Int) - (sign:Int))*((done:Int)+1):=by rw[hpr];omega
      have hp2:((q:Int) - (sign:Int))*((done:Int)+1)≤128511*256:=by rw[hpr];omega
      rw[←hD] at hE';have Yu:D≤32899072:=by omega
      obtain⟨p1,p2,p3,p4⟩:=afB XX q l ⟨D,bJ,first,done,out⟩ (by show D+_ < _;omega);have p4':=p4 hql;have Mu:=List.count_pos_iff.mpr hql;have Hw:=C8 l sign q yX LV;simp only at p2;have HP2:=hid p2;have HP4:=hid p4';have HC:=hid (And.intro Mu Hw);have HE:=hid hE';have HDI:=hid hDI;have HLS:=hid (fun W (hW:Below w.heap.size w W)=>RM _ l sign W (HV.out.below hW) (by omega));rw[hq] at HLS;unfold rM at HLS;simp only at HLS;clear p1 p2 p3 p4 p4' Mu Hw hE hE' hDI hpr hq hmul hD LV;go_wp2_with fail;refine(HLS.out _ abY.out).mono ?_;rintro e w' ⟨rfl,rfl⟩;go_wp2_with fail;go_loopw [4,7,8,10,11,60] (fun a dn dd bs fi i wr2=>∃(k:Nat) (t:PSt),fC wr2 w.heap.size a t.out∧dn= .int .i64 (t.done:Int)∧dd= .int .i64 (t.d:Int)∧bs= .int .i64 (t.bJ:Int)∧fi= .bool t.first∧i= .int .i64 (k:Int)
       ∧k≤l.length∧Hid (l.foldl (pL q) ⟨D,bJ,first,done,out⟩=(l.drop k).foldl (pL q) t)∧t.d≤32899072+k∧t.done≤done+k∧t.bJ≤100000000∧t.out.length≤out.length+8*k∧Hid (Below w.heap.size w wr2)) (fun _ _ _ _ _ i _=>l.length - (intOf i).toNat)
      case atStart=>exact⟨0,⟨D,bJ,first,done,out⟩,bE,rfl,by rw[HDI.out],rfl,rfl,rfl,by omega,hid rfl,by show D≤_;omega,by show done≤_;omega,FH,by show out.length≤_;omega,abY⟩
      case round=>
       clear bE;obtain⟨k,⟨td,tb,tf,JR,tO⟩,bE,rfl,rfl,rfl,rfl,rfl,hk,hF,htd,anD,htb,hto,vD⟩:=hrel;simp only at bE hF htd anD htb hto;have anE:=vD.out.size;by_cases mE:k < l.length
       ·obtain⟨g,off,rfl,aW⟩:=HG.out k mE wr vD.out;have aT:=hF.out;rw[List.drop_eq_getElem_cons mE,List.foldl_cons] at aT;generalize l[k]=x at*;clear hF;by_cases uX:x < q
        ·have e:pL q ⟨td,tb,tf,JR,tO⟩ x=⟨td+1,tb,tf,JR,tO⟩:=by unfold pL;simp only[if_pos uX,if_neg (show¬x=q by omega)]
         rw[e] at aT;have HF:=hid aT;clear aT e;have HX:=hid (And.intro RZ (And.intro hto (And.intro JQ (And.intro K9 (And.intro yX (And.intro hqb (And.intro hn (And.intro FH (And.intro htb (And.intro CL (And.intro hhl (And.intro VT (And.intro hp2 Yu)))))))))))));clear RZ hto JQ K9 yX hqb hn FH htb CL hhl VT hp2 Yu;go_wp2_with fail;go_roundw;case rel=>obtain⟨RZ,hto,JQ,K9,yX,hqb,hn,FH,htb,CL,hhl,VT,hp2,Yu⟩:=HX.out;exact⟨k+1,⟨td+1,tb,tf,JR,tO⟩,bE,rfl,by go_num,rfl,rfl,by go_num,by omega,HF,by show td+1≤_;omega,by show JR≤_;omega,htb,by show tO.length≤_;omega,vD⟩
         case measure=>simp[intOf];omega
        ·by_cases B8:x=q
         ·have e:pL q ⟨td,tb,tf,JR,tO⟩ x=⟨0,tW td (JR+1) tf,false,JR+1,tO++jM 0 td tb⟩:=by unfold pL;simp only[if_neg uX,if_pos B8]
          rw[e] at aT;have HF:=hid aT;have hw8:=C7 0 td tb (by omega);have lA:=YA td (JR+1) tf (by omega);have HNB:=hid (fun W=>Cm td (JR+1) tf (by omega) (by omega) (by omega) W);have gW:((JR+1:Nat):Int)=(JR:Int)+1:=by simp
          rw[gW] at HNB;generalize tW td (JR+1) tf=NB at*;clear aT e gW;subst B8;have HW:=hid (RU _ tO td tb wr w.heap.size bE anE (by omega) (by omega) (by omega));have YC:(tO++jM 0 td tb).length≤tO.length+8:=by rw[List.length_append];omega
          go_wp2_with fail;refine(HW.out).mono ?_;rintro e w4 ⟨v4,rfl,OD,cG⟩;have fG:=hid (vD.out.trans cG);clear cG bE;go_wp2_with fail;refine(HNB.out _).mono ?_;rintro e w' ⟨rfl,rfl⟩;go_wp2_with fail;go_roundw;case rel=>exact⟨k+1,⟨0,NB,false,JR+1,tO++jM 0 td tb⟩,OD,by go_num,rfl,rfl,rfl,by go_num,by omega,HF,by show(0:Nat)≤_;omega,by show JR+1≤_;omega,by show NB≤_;omega,by show(tO++jM 0 td tb).length≤_;omega,fG⟩
          case measure=>simp[intOf];omega
         ·have e:pL q ⟨td,tb,tf,JR,tO⟩ x=⟨td,tb,tf,JR,tO⟩:=by unfold pL;simp only[if_neg uX,if_neg B8]
          rw[e] at aT;have HF:=hid aT;have hx3:q < x:=by omega
          clear aT e uX B8;have HX:=hid (And.intro RZ (And.intro hto (And.intro JQ (And.intro K9 (And.intro yX (And.intro hqb (And.intro hn (And.intro FH (And.intro htb (And.intro CL (And.intro hhl (And.intro VT (And.intro hp2 Yu)))))))))))));clear RZ hto JQ K9 yX hqb hn FH htb CL hhl VT hp2 Yu;go_wp2_with fail;go_roundw;case rel=>obtain⟨RZ,hto,JQ,K9,yX,hqb,hn,FH,htb,CL,hhl,VT,hp2,Yu⟩:=HX.out;exact⟨k+1,⟨td,tb,tf,JR,tO⟩,bE,rfl,rfl,rfl,rfl,by go_num,by omega,HF,by show td≤_;omega,by show JR≤_;omega,htb,by show tO.length≤_;omega,vD⟩
          case measure=>simp[intOf];omega
       ·obtain rfl:k=l.length:=by omega
        have aT:=hF.out;rw[List.drop_length,List.foldl_nil] at aT;have h2:=HP2.out;have h4:=HP4.out;have hE3:=HE.out;rw[aT] at h2 h4 hE3;simp only at h2 h4 hE3;obtain⟨Od,Gm⟩:=HC.out;have HA':=hid hA.out;have HE3:=hid hE3;have h2':JR≤l.length∧done < JR:=by have:=hA.out.1;omega
        have HA2:Hid (JR+eK l (q+1)=l.length∧eK l (q+1)≤n):=hid (by have:=hA.out;omega);obtain⟨h2a,h2b⟩:=h2';clear hF aT hE3 HE HP2 HP4 HC hA HA' h2 Od Gm;go_wp2_with fail;go_roundw;case rel=>exact⟨n,⟨td+1,tb,tf,JR,tO⟩,q+1,bE,rfl,by go_num,by go_num,rfl,rfl,HE3,HA2,h2a,by omega,by show td+1≤_;omega,htb,by show tO.length+_≤_;omega,by omega,vD⟩
        case measure=>simp[intOf];omega
     ·have hE':=hE.out;rw[RX bC] at hE';simp only at hE';have HE:=hid hE';have tH:=oE bE;clear hE hE';go_wp2_with fail;go_ret2;exact⟨by rw[HE.out];rfl,abY.out⟩
end Go.Proofs.YtmgmclkplepapaaGreatDoor
