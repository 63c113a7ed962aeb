/- Part of the proof of TopBoundsUptoCardSaid. Conditions: none beyond the statement. -/
import Derived.Test.YtmgmclkplepapaaGreatDoorPt24
import Derived.Test.YtmgmclkplepapaaGreatDoorPt25
set_option linter.all false
set_option maxRecDepth 100000
set_option maxHeartbeats 64000000
namespace Go.Proofs.YtmgmclkplepapaaGreatDoor
open Go.RowKit
def RB (w:World) (v:Value) (l:List UInt8):Prop:=
 ∃A c,v= .slice A l.length c∧l.length≤c∧c≤maxLen∧(l≠[]→∃g off,A=some ⟨g,off,none⟩∧g < w.heap.size∧∀j (h:j < l.length),w.cell? ⟨g,off+j,none⟩=some (.int .u8 (l[j].toNat:Int)))
theorem eR.rb {w:World} {v:Value} {l:List UInt8} (h:eR w v l):RB w v l:=by
 rcases h with⟨rfl,rfl⟩|⟨g,off,c,rfl,hc,hm,aW⟩;·exact⟨none,0,rfl,Nat.le_refl _,Nat.zero_le _,fun h=>absurd rfl h⟩
 ·refine⟨_,c,rfl,hc,hm,fun eG=>⟨g,off,rfl,?_,aW⟩⟩;have h0:0 < l.length:=List.length_pos_iff.mpr eG;have h1:=aW 0 h0;rcases Nat.lt_or_ge g w.heap.size with bC|An;·exact bC
  ·simp[World.cell?,Array.getElem?_eq_none An] at h1
theorem RB.Uz {w:World} {v:Value} {l:List UInt8} (h:RB w v l) (eG:l≠[]):eR w v l:=by obtain⟨A,c,rfl,hc,hm,h2⟩:=h;obtain⟨g,off,rfl,_,aW⟩:=h2 eG;exact .inr ⟨g,off,c,rfl,hc,hm,aW⟩
theorem RB.cut {w:World} {g off c k:Nat} {l:List UInt8} (hc:l.length≤c) (hm:c≤maxLen) (hg:g < w.heap.size) (h:∀j (h:j < l.length),w.cell? ⟨g,off+j,none⟩=some (.int .u8 (l[j].toNat:Int))) (hk:k≤l.length):
 RB w (.slice (if c=k then some ⟨g,off,none⟩ else some ⟨g,off+k,none⟩) (l.length - k) (c - k)) (l.drop k):=by
 have:=(eR.cut hc hm h hk).rb;rw[List.length_drop] at this;by_cases hck:c=k
 ·rw[if_pos hck];exact⟨_,_,by rw[List.length_drop],by rw[List.length_drop];omega,by omega,fun eG=>by
   exfalso;exact eG (List.drop_eq_nil_of_le (by omega))⟩
 ·rw[if_neg hck];exact this
theorem FY (v:Value) (l:List UInt8) (w:World) (hW:Laid w) (hv:eR w v l) (hl:l.length≤1000000000):
 Calls Tryz.prog 48 #[v] w fun e w'=>e= .returned (.string (aA (dM l)))∧Below w.heap.size w w':=by
 have K5:=rX.fresh w;have sV:Below w.heap.size w (w.alloc (.cells #[.pointer none,.slice none 0 0] 65)):=(Below.refl _ _).alloc (Nat.le_refl _) _;have ID:=hid K5;have UA:=hid sV;have HV:=hid hv.rb;have HW:=hid hW;have HTL:=hid (BK _ l (Nat.le_refl _));clear K5 sV hv hW;go_enter Tryz.func48,Tryz.ntmps48;go_wp2_with fail;go_loopw [0] (fun a wr=>∃rest out:List UInt8,RB w a rest∧rest.length≤1000000000∧rX wr w.heap.size w.heap.size out∧Hid (dM l=out++dM rest)∧Hid (Below w.heap.size w wr)) (fun a _=>match a with| .slice _ n _=>n|_=>0);case atStart=>exact⟨l,[],HV.out,hl,ID.out,hid (by simp),UA⟩
 case round=>
  obtain⟨rest,out,Kr,UB,kZ,hF,dR⟩:=hrel;have rB:=dR.out.size;obtain⟨A,c,rfl,hc,hm,aW⟩:=Kr;have jO:=hid kZ;have HRB:Hid (RB w (.slice A rest.length c) rest):=hid ⟨A,c,rfl,hc,hm,aW⟩;clear kZ;have hol:out.length≤3000000000:=by have h1:=HTL.out;have h2:=congrArg List.length hF.out;rw[List.length_append] at h2;omega
  by_cases hr:rest=[];·subst hr;have HF:Hid (dM l=out):=hid (by rw[hF.out,oO,List.append_nil]);clear hF aW;go_wp2_with fail;refine(eU _ _ _ out jO.out rB).mono ?_;rintro e w4 ⟨rfl,cG⟩;go_wp2_with fail;go_ret;exact⟨by rw[HF.out];rfl,dR.out.trans cG⟩
  ·obtain⟨g,off,rfl,hg,aW⟩:=aW hr;have hr0:0 < rest.length:=List.length_pos_iff.mpr hr;have HR:=hid hr;have hrd:eR wr (.slice (some ⟨g,off,none⟩) rest.length c) rest:=(HRB.out.Uz hr).below dR.out;have Zk:=hid (EW _ rest wr (HW.out.step dR.out) hrd hr);have HBG:=hid (fun W (hb:Below w.heap.size w W)=>IT _ rest W ((HRB.out.Uz hr).below hb) hr);have VS:=qB rest;have hW1:¬((cH rest).1=65533∧(cH rest).2=1)→(cH rest).2≤rest.length:=fun h=>(jZ rest hr _ _ rfl (fun h1 h2=>h ⟨h1,h2⟩)).le;have HC:=hid aW;clear aW hr hrd;by_cases GG:(cH rest).1=65533∧(cH rest).2=1
   ·obtain⟨h1,h2⟩:=GG;have aT:=hF.out;rw[xL HR.out ⟨h1,h2⟩] at aT;rw[h1,h2] at Zk;have apY:=yZ rest;have anO:=KI rest HR.out;have HF:Hid (dM l=(out++[0xef,0xbf,0xbd])++dM (rest.drop (lA rest))):=hid (by rw[aT];simp);clear hF aT h1 h2 VS hW1;generalize lA rest=k at*;go_wp2_with fail;refine Zk.out.mono ?_;rintro e w4 ⟨rfl,cG⟩;have fG:=hid cG;have apZ:=cG.size;clear cG;go_wp2_with fail;refine(cO w4 w.heap.size w.heap.size out ⟨#[239,191,189]⟩ (rO jO.out fG.out) (by simp[ByteArray.size];omega) (by omega)).mono ?_;rintro e w5 ⟨rfl,Pt,aM⟩;have iI:=hid ((dR.out.trans (fG.out.mono rB)).trans aM);have IW:=hid Pt;clear aM Pt;go_wp2_with fail;refine(HBG.out _ iI.out).mono ?_;rintro e w' ⟨rfl,rfl⟩;go_wp2_with fail;go_roundw;case rel=>exact⟨rest.drop k,out++[0xef,0xbf,0xbd],RB.cut hc hm hg HC.out anO,by rw[List.length_drop];omega,IW.out,HF,iI⟩
    case measure=>simp;omega
   ·have hle:=hW1 GG;have aT:=hF.out;rw[pP HR.out GG] at aT;have HF:Hid (dM l=(out++rest.take (cH rest).2)++dM (rest.drop (cH rest).2)):=hid (by rw[aT];simp);have Ar:(rest.take (cH rest).2).length=(cH rest).2:=by rw[List.length_take];omega
    have htn:rest.take (cH rest).2≠[]:=by intro h;rw[h] at Ar;simp at Ar;omega
    have akP:out.length+(cH rest).2≤4000000000:=by omega
    have DO:=hid (fun w1 (hb:rX w1 w.heap.size w.heap.size out) (hB:Below w.heap.size w w1)=>ML w1 w.heap.size w.heap.size out (rest.take (cH rest).2) g off c hb (by rw[Ar];exact akP) hB.size htn hg (fun j hj=>by
     rw[Ar] at hj;rw[List.getElem_take];exact(hB.cell (p:=⟨g,off+j,none⟩) hg).trans (HC.out j (by omega))))
    rw[Ar] at DO;have aqA:(cH rest).1≤1114111:=by have:=(jZ rest HR.out _ _ rfl (fun h1 h2=>GG ⟨h1,h2⟩)).ok;omega
    clear hF aT hW1 Ar htn;by_cases h1:(cH rest).1=65533
    ·have h2:¬(cH rest).2=1:=fun h=>GG ⟨h1,h⟩;rw[h1] at Zk;clear GG h1;generalize (cH rest).2=k at*;have h2':((k:Int)==1)=false:=by simp;omega
     go_wp2_with fail;refine Zk.out.mono ?_;rintro e w4 ⟨rfl,cG⟩;have fG:=bU dR cG rB;have CR:=hid (rO jO.out cG);clear cG;go_wp2_with fail;refine(DO.out w4 CR.out fG.out).mono ?_;rintro e w5 ⟨rfl,Pt,aM⟩;have iI:=hid (fG.out.trans aM);have IW:=hid Pt;clear aM Pt;go_wp2_with fail;go_roundw;case rel=>exact⟨rest.drop k,out++rest.take k,RB.cut hc hm hg HC.out hle,by rw[List.length_drop];omega,IW.out,HF,iI⟩
     case measure=>simp;omega
    ·generalize (cH rest).2=k at*;generalize (cH rest).1=r at*;have h1':((r:Int)==65533)=false:=by simp;omega
     clear GG h1;go_wp2_with fail;refine Zk.out.mono ?_;rintro e w4 ⟨rfl,cG⟩;have fG:=bU dR cG rB;have CR:=hid (rO jO.out cG);clear cG;go_wp2_with fail;refine(DO.out w4 CR.out fG.out).mono ?_;rintro e w5 ⟨rfl,Pt,aM⟩;have iI:=hid (fG.out.trans aM);have IW:=hid Pt;clear aM Pt;go_wp2_with fail;go_roundw;case rel=>exact⟨rest.drop k,out++rest.take k,RB.cut hc hm hg HC.out hle,by rw[List.length_drop];omega,IW.out,HF,iI⟩
     case measure=>simp;omega
theorem MQ {l:List UInt8} (h:l≠[]):(cH l).1≤1114111∧(cH l).2≤l.length:=by
 by_cases hb:(cH l).1=65533∧(cH l).2=1;·have:0 < l.length:=List.length_pos_iff.mpr h;omega
 ·have W:=jZ l h _ _ rfl (fun h1 h2=>hb ⟨h1,h2⟩);have h1:=W.ok;have h2:=W.le;omega
theorem I0 (s:ByteArray) (w:World):eR (w.alloc (.cells (bytesRow s (grownCap w s.size 0 5)) 5 ((bytesRow s (grownCap w s.size 0 5)).size,(bytesRow s (grownCap w s.size 0 5)).size+1))).drew (.slice (some ⟨w.heap.size,0,none⟩) s.size (grownCap w s.size 0 5)) s.data.toList∨maxLen < s.size:=by
 by_cases hm:s.size≤maxLen
 ·left;have h1:=Dm s w (grownCap w s.size 0 5) 5;have hlen:s.data.toList.length=s.size:=by simp
  refine .inr ⟨w.heap.size,0,_,by rw[hlen],by rw[hlen];exact grownCap_ge _ _ _ _,grownCap_le_maxLen _ _ _ _ hm,fun j hj=>?_⟩;rw[Nat.zero_add];exact(h1 j hj).1
 ·right;omega
theorem pA.iterAt {w:World} {base k:Nat} {v:Value} {l:List Nat} (h:pA w base v l) (hk:k < base) (s:ByteArray) (p:Nat):pA (w.iterAt k s p) base v l:=ownsRow_iterAt h hk s p
theorem I1 (l:List UInt8) (w:World) (hW:Laid w) (hl:l.length≤1000000000):
 Calls Tryz.prog 216 #[.string (aA l)] w fun e w'=>∃v,e= .returned v∧pA w' w.heap.size v (dC (dM l))∧Below w.heap.size w w':=by
 have G2:=run_bytes_of_string (P:=Tryz.prog) w 9 25 5 (aA l) Tryz.underlying9 Tryz.underlying25 Tryz.underlying5;have Kr:=I0 (aA l) w;rw[aC] at Kr;have SH:=Kr.resolve_right (by rw[aD];unfold maxLen;omega);have uD:=Below.made (aA l) w (grownCap w (aA l).size 0 5) 5;generalize grownCap w (aA l).size 0 5=cap at*;have HRB:=hid SH;have UA:=hid uD;have hW1:=hW.step uD;generalize Ia:(w.alloc (.cells (bytesRow (aA l) cap) 5 ((bytesRow (aA l) cap).size,(bytesRow (aA l) cap).size+1))).drew=w1 at*;have HT:=hid (FY (.slice (some ⟨w.heap.size,0,none⟩) (aA l).size cap) l w1 hW1 SH hl);have Cn:=uD.size;have hTl:=BK _ l (Nat.le_refl _);generalize dM l=T at*;have HW1:=hid Ia;clear Kr SH uD Ia;go_enter Tryz.func216,Tryz.ntmps216;go_wp2_with fail;rw[HW1.out];refine HT.out.mono ?_;rintro e w2 ⟨rfl,dE⟩;have cK:=bU UA dE Cn;have Wd:=dE.size;clear dE G2;go_wp2_with fail;go_loopw [3] (fun v wr=>∃(acc:List Nat) (pos:Nat),pA wr (w2.heap.size+1) v acc∧wr.heap[w2.heap.size]? =some (.stringIter (aA T) pos)∧acc.length≤pos∧Hid (dC T=acc++dC (T.drop pos))∧Hid (Below w.heap.size w wr)∧w2.heap.size+1≤wr.heap.size) (fun _ wr=>T.length - wr.iterPos w2.heap.size);case atStart=>exact⟨[],0,pA.nil _ _,World.iter_heap _ _ _,Nat.le_refl _,hid (by simp),hid (cK.out.alloc (by omega) _),by simp[World.iter]⟩
 case round=>
  obtain⟨acc,pos,bE,hit,Zj,hF,dR,iV⟩:=hrel;by_cases bC:pos < T.length
  ·have hps:pos < (aA T).size:=by rw[aD];exact bC
   have eG:T.drop pos≠[]:=by intro h;have:=congrArg List.length h;simp at this;omega
   have Zl:=fun ty=>Lib.run_next_any_at (P:=Tryz.prog) wr w2.heap.size (aA T) pos ty hit hps;have aT:=hF.out;rw[sM eG,List.drop_drop] at aT;obtain⟨aH,rE⟩:=MQ eG;have VS:=qB (T.drop pos);rw[List.length_drop] at rE;simp only[BY] at Zl;generalize (cH (T.drop pos)).1=r at*;generalize (cH (T.drop pos)).2=k at*;have HF:Hid (dC T=(acc++[r])++dC (T.drop (pos+k))):=hid (by rw[aT];simp);have oU:=bE.iterAt (by omega:w2.heap.size < w2.heap.size+1) (aA T) (pos+k);have GK:=Lib.iterAt_heap wr w2.heap.size (aA T) pos (pos+k) hit;have fG:=hid (Lib.below_iterAt dR.out (show w.heap.size≤w2.heap.size by omega) (aA T) (pos+k));have anP:=Lib.iterAt_size wr w2.heap.size (aA T) (pos+k);have akQ:wr.iterPos w2.heap.size=pos:=by unfold World.iterPos;rw[hit]
   generalize hw4:wr.iterAt w2.heap.size (aA T) (pos+k)=w4 at*;have ahN:w2.heap.size+1≤w4.heap.size:=by omega
   have MR:=hid GK;have HIP:=hid akQ;clear hF aT hit GK hw4 anP eG bE akQ;go_wp2_with (at_builtin;refine wA w4 (w2.heap.size+1) _ acc r rfl rfl _ _ rfl rfl oU rfl (by omega) ahN ?_;intro v1 w5 dJ eN);go_roundw;case rel=>exact⟨acc++[r],pos+k,dJ,(eN.block _ (by omega)).trans MR.out,by simp;omega,HF,hid (fG.out.trans (eN.mono (by omega))),by have:=eN.size;omega⟩
   case measure=>
    have h1:w5.iterPos w2.heap.size=pos+k:=by unfold World.iterPos;rw[(eN.block _ (by omega)).trans MR.out]
    rw[h1,HIP.out];omega
  ·have Zl:=fun ty=>Lib.run_next_end_at (P:=Tryz.prog) wr w2.heap.size (aA T) pos ty hit (by rw[aD];omega);have HF:Hid (dC T=acc):=hid (by rw[hF.out,List.drop_eq_nil_of_le (by omega),mH,List.append_nil]);clear hF;go_wp2_with fail;go_ret;exact⟨_,rfl,by rw[HF.out];exact bE.mono (by omega),dR.out⟩
def Az (c:UInt8):List UInt8:=
 if c=38 then[38,97,109,112,59] else if c=34 then[38,35,51,52,59] else if c=39 then[38,35,51,57,59]
 else if c=60 then[38,35,54,48,59] else if c=62 then[38,35,54,50,59] else if c=96 then[38,35,57,54,59] else[]
def six (c:UInt8):Bool:=c==38||(c==34||(c==39||(c==60||(c==62||c==96))))
def GL (c:UInt8):List UInt8:=if Az c=[] then[c] else Az c
def gW (l:List UInt8):List UInt8:=l.flatMap GL
theorem SI:gW []=[]:=rfl
theorem FZ (c:UInt8) (l:List UInt8):gW (c::l)=GL c++gW l:=by simp[gW]
theorem SJ (a b:List UInt8):gW (a++b)=gW a++gW b:=by simp[gW]
theorem Lk {c:UInt8} (h:six c=true):c=38∨c=34∨c=39∨c=60∨c=62∨c=96:=by simpa[six] using h
theorem DP {c:UInt8} (h:six c=true):GL c=Az c∧Az c≠[]∧(Az c).length=5:=by rcases Lk h with rfl|rfl|rfl|rfl|rfl|rfl<;>decide
theorem MS {c:UInt8} (h:six c=false):Az c=[]∧GL c=[c]:=by
 have h':¬(c=38∨c=34∨c=39∨c=60∨c=62∨c=96):=by simpa[six] using h
 have e:Az c=[]:=by unfold Az;rw[if_neg (by intro e;exact h' (by simp[e])),if_neg (by intro e;exact h' (by simp[e])),if_neg (by intro e;exact h' (by simp[e])),if_neg (by intro e;exact h' (by simp[e])),if_neg (by intro e;exact h' (by simp[e])),if_neg (by intro e;exact h' (by simp[e]))]
 exact⟨e,by unfold GL;rw[if_pos e]⟩
theorem Zm (c:UInt8):1≤(GL c).length∧(GL c).length≤5:=by
 cases h:six c with
 |false=>rw[(MS h).2];simp
 |true=>rw[(DP h).1,(DP h).2.2];omega
theorem I2 (l:List UInt8):l.length≤(gW l).length∧(gW l).length≤5*l.length:=by
 induction l with
 |nil=>simp[SI]
 |cons c r ih=>rw[FZ];have:=Zm c;simp only[List.length_append,List.length_cons];omega
theorem uN {c:UInt8} {n:Nat} (hn:n < 256) (h:c≠UInt8.ofNat n):((c.toNat:Int)==(n:Int))=false:=by rw[Mx c n hn];simpa using h
set_option maxHeartbeats 10000000000 in
theorem Ks (c:UInt8) (w:World):Calls Tryz.prog 67 #[.int .u8 (c.toNat:Int)] w fun e w'=>e= .returned (.string (aA (Az c)))∧w=w':=by
 cases h:six c with
 |false=>
  have he:=(MS h).1;have hn:¬(c=38∨c=34∨c=39∨c=60∨c=62∨c=96):=by simpa[six] using h
  have k38:((c.toNat:Int)==38)=false:=uN (n:=38) (by decide) (fun e=>hn (by rw[e];decide));have k34:((c.toNat:Int)==34)=false:=uN (n:=34) (by decide) (fun e=>hn (by rw[e];decide));have k39:((c.toNat:Int)==39)=false:=uN (n:=39) (by decide) (fun e=>hn (by rw[e];decide));have k60:((c.toNat:Int)==60)=false:=uN (n:=60) (by decide) (fun e=>hn (by rw[e];decide));have k62:((c.toNat:Int)==62)=false:=uN (n:=62) (by decide) (fun e=>hn (by rw[e];decide));have k96:((c.toNat:Int)==96)=false:=uN (n:=96) (by decide) (fun e=>hn (by rw[e];decide));have HE:=hid he;clear hn h he;go_enter Tryz.func67,Tryz.ntmps67;go_wp2;go_ret;exact⟨by rw[HE.out];rfl,rfl⟩
 |true=>
  rcases Lk h with rfl|rfl|rfl|rfl|rfl|rfl;all_goals
   clear h;go_enter Tryz.func67,Tryz.ntmps67;go_wp2;go_ret;exact⟨rfl,rfl⟩
theorem SK (s:ByteArray) (k:Nat) (h:k < s.size):s.data.toList.take (k+1)=s.data.toList.take k++[s[k]]:=by rw[List.take_succ_eq_append_getElem (by simpa using h)];rfl
theorem Wo (s:ByteArray) (k:Nat) (h:k≤s.size):(s.data.toList.take k).length=k:=by rw[List.length_take];simp;omega
theorem Wp (s:ByteArray):s.data.toList.take s.size=s.data.toList:=List.take_of_length_le (by simp)
set_option maxHeartbeats 10000000000 in
theorem MT (s:ByteArray) (w:World) (hs:s.size≤100000000):
 Calls Tryz.prog 38 #[.string s] w fun e w'=>e= .returned (.string (aA (gW s.data.toList)))∧Below w.heap.size w w':=by
 have K5:=rX.fresh w;have sV:Below w.heap.size w (w.alloc (.cells #[.pointer none,.slice none 0 0] 65)):=(Below.refl _ _).alloc (Nat.le_refl _) _;have ID:=hid K5;have UA:=hid sV;clear K5 sV;go_enter Tryz.func38,Tryz.ntmps38;go_wp2_with fail;go_loopw [8] (fun i wr=>∃k:Nat,k≤s.size∧i= .int .i64 k∧rX wr w.heap.size w.heap.size (gW (s.data.toList.take k))∧Below w.heap.size w wr) (fun i _=>s.size - (intOf i).toNat);case atStart=>exact⟨0,Nat.zero_le _,rfl,ID.out,UA.out⟩
 case round=>
  obtain⟨k,hk,rfl,kZ,dB⟩:=hrel;have jO:=hid kZ;have dR:=hid dB;clear kZ dB;by_cases bC:k < s.size
  ·have hn:Hid (gW (s.data.toList.take (k+1))=gW (s.data.toList.take k)++GL s[k]):=hid (by rw[SK s k bC,SJ];simp[gW]);have Uh:(gW (s.data.toList.take k)).length≤1000000000:=by have:=(I2 (s.data.toList.take k)).2;rw[Wo s k hk] at this;omega
   have akR:=hid (fun w=>Ks s[k] w);have uW:(s[k]).toNat < 256:=s[k].toNat_lt;have zV:=cC (Az s[k]);cases h6:six s[k] with
   |false=>
    have he:(aA (Az s[k])).toList.isEmpty=true:=by rw[zV,(MS h6).1];rfl
    have HN:Hid (GL s[k]=[s[k]]):=hid (MS h6).2;have HW:=hid (fun w1 hb Cn=>iP w1 w.heap.size w.heap.size (gW (s.data.toList.take k)) s[k] rfl hb (by omega) Cn);generalize aA (Az s[k])=x at*;clear zV h6;go_wp2_with fail;refine(akR.out _).mono ?_;rintro e w' ⟨rfl,rfl⟩;go_wp2_with fail;refine(HW.out _ jO.out dR.out.size).mono ?_;rintro e w4 ⟨rfl,cG,Zn⟩;have fG:=hid cG;have ahO:=hid (dR.out.trans Zn);clear cG Zn;go_wp2_with fail;go_roundw;case rel=>exact⟨k+1,by omega,by go_num,by rw[hn.out,HN.out];exact fG.out,ahO.out⟩
    case measure=>simp[intOf];omega
   |true=>
    have eG:=(DP h6).2.1;have he:(aA (Az s[k])).toList.isEmpty=false:=by rw[zV];cases hq:Az s[k] with|nil=>exact absurd hq eG|cons a b=>rfl
    have HN:Hid (GL s[k]=Az s[k]):=hid (DP h6).1;have hz:(aA (Az s[k])).size≤5:=by rw[aD,(DP h6).2.2];omega
    have HW:=hid (fun w1 hb Cn=>cO w1 w.heap.size w.heap.size (gW (s.data.toList.take k)) (aA (Az s[k])) hb (by omega) Cn);rw[aC] at HW;generalize aA (Az s[k])=x at*;clear zV h6 eG;go_wp2_with fail;refine(akR.out _).mono ?_;rintro e w' ⟨rfl,rfl⟩;go_wp2_with fail;refine(HW.out _ jO.out dR.out.size).mono ?_;rintro e w4 ⟨rfl,cG,Zn⟩;have fG:=hid cG;have ahO:=hid (dR.out.trans Zn);clear cG Zn;go_wp2_with fail;go_roundw;case rel=>exact⟨k+1,by omega,by go_num,by rw[hn.out,HN.out];exact fG.out,ahO.out⟩
    case measure=>simp[intOf];omega
  ·obtain rfl:k=s.size:=by omega
   have HF:Hid (gW (s.data.toList.take s.size)=gW s.data.toList):=hid (by rw[Wp]);go_wp2_with fail;refine(eU _ _ _ _ jO.out dR.out.size).mono ?_;rintro e w4 ⟨rfl,cG⟩;have fG:=hid (dR.out.trans cG);clear cG;go_wp2_with fail;go_ret;exact⟨by rw[←HF.out];rfl,fG.out⟩
def dW (l:List Nat):Array Value:=(l.map eY).toArray
def Pu (l:List Nat):Value:= .agg (dW l)
theorem EZ {l:List Nat} {i:Nat} (h:i < l.length):(dW l)[i]? =some (.int .u16 (l[i]'h:Int)):=by simp[dW,h,eY]
theorem Pv {a:List Nat} {i:Nat} (h:a.length≤i):iU a i=0:=by unfold iU;rw[List.drop_eq_nil_of_le h];rfl
theorem MU {a:List Nat} {i:Nat} (h:i < a.length) (h0:a[i]=0):iU a i=iU a (i+1)+1:=by unfold iU;rw[List.drop_eq_getElem_cons h,List.takeWhile_cons,h0];simp
theorem Pw {a:List Nat} {i:Nat} (h:i < a.length) (h0:a[i]≠0):iU a i=0:=by unfold iU;rw[List.drop_eq_getElem_cons h,List.takeWhile_cons];simp[h0]
theorem I5 (a:List Nat) (i:Nat):iU a i≤a.length - i:=by unfold iU;have h:((a.drop i).takeWhile (· ==0)).length≤(a.drop i).length:=(List.takeWhile_sublist (l:=a.drop i) (· ==0)).length_le;rw[List.length_drop] at h;exact h
theorem SL (a:List Nat) (n i b e:Nat) (h:i < 8):vT a (n+1) i b e=if 2≤iU a i∧e - b < iU a i then vT a n (i+iU a i+1) i (i+iU a i) else vT a n (i+iU a i+1) b e:=by rw[vT,if_neg (by omega)]
theorem Wq (a:List Nat) (n i b e:Nat) (h:8≤i):vT a n i b e=(b,e):=by
 cases n with
 |zero=>rfl
 |succ n=>rw[vT,if_pos h]
theorem I6 (l:List Nat) (h8:l.length=8) (w:World):Calls Tryz.prog 88 #[Pu l] w fun e w'=>e= .returned (.tuple #[.int .i64 ((Gm l).1:Int),.int .i64 ((Gm l).2:Int)])∧Below w.heap.size w w':=by
 go_enter Tryz.func88,Tryz.ntmps88;go_wp2_with (refine jG (arr:=(dW l)) rfl rfl ?_;intro g w1 jK hA);obtain⟨hg,hb,hz⟩:=hA.out;have HB:=hid hb;clear hg hb hz hA;go_loopw [4,5,6] (fun x y z wr=>∃b e i n:Nat,x= .int .i64 (b:Int)∧y= .int .i64 (e:Int)∧z= .int .i64 (i:Int)∧b≤e∧e≤8∧i≤9∧Hid (9≤n+i)∧Hid (Gm l=vT l n i b e)∧w1=wr) (fun _ _ z _=>9 - (intOf z).toNat);case atStart=>exact⟨0,0,0,9,rfl,rfl,rfl,Nat.le_refl _,by omega,by omega,hid (by omega),hid rfl,rfl⟩
 case round=>
  obtain⟨b,e,i,n,rfl,rfl,rfl,hbe,JS,hi9,hn,hF,rfl⟩:=hrel;by_cases bC:i < 8
  ·obtain⟨m,rfl⟩:∃m,n=m+1:=⟨n - 1,by have:=hn.out;omega⟩;have aT:=hF.out;rw[SL l m i b e bC] at aT;have Ui:=I5 l i;have HZ:Hid (∃z,z=iU l i):=hid ⟨_,rfl⟩;obtain⟨z,hz⟩:=HZ.out;rw[←hz] at aT Ui;have aqB:i+z≤8:=by omega
   have HZ2:=hid hz;have sH:=hid aT;have HN2:=hid hn.out;clear hF aT hz Ui HZ hn;have hd8:decide ((i:Int) < 8)=true:=by simp;omega
   go_wp2_with fail;clear hd8;go_loopw [7] (fun v wr=>∃j:Nat,v= .int .i64 (j:Int)∧i≤j∧j≤8∧Hid (iU l i=(j - i)+iU l j)∧w1=wr) (fun v _=>8 - (intOf v).toNat);case atStart=>exact⟨i,rfl,Nat.le_refl _,by omega,hid (by omega),rfl⟩
   case round=>
    obtain⟨j,rfl,hij,hj8,hG,rfl⟩:=hrel;by_cases hjl:j < 8
    ·have Zo:j < l.length:=by omega
     have aW:=jK.cell (EZ Zo);by_cases h0:l[j]'Zo=0
     ·have HG:Hid (iU l i=(j+1 - i)+iU l (j+1)):=hid (by rw[hG.out,MU Zo h0];omega);rw[h0] at aW;clear hG h0;go_wp2_with fail;go_roundw;case rel=>exact⟨j+1,by go_num,by omega,by omega,HG,trivial⟩
      case measure=>simp[intOf];omega
     ·have hjz:j=i+z:=by have h1:=hG.out;have h2:=HZ2.out;rw[Pw Zo h0] at h1;omega
      obtain⟨u,hu⟩:∃u,u=l[j]'Zo:=⟨_,rfl⟩;rw[←hu] at h0 aW;have QL:((u:Int)==0)=false:=by rw[beq_eq_false_iff_ne];omega
      clear hu;subst hjz;have e1:IntKind.i64.wrap (((i+z:Nat):Int) - (i:Int))=(z:Int):=by rw[IntWalk.i64_in _ (by omega)];omega
      have e2:IntKind.i64.wrap ((e:Int) - (b:Int))=((e - b:Nat):Int):=by rw[IntWalk.i64_in _ (by omega)];omega
      clear hG;by_cases h2:2≤z
      ·have g2:decide ((2:Int)≤(z:Int))=true:=by simp;omega
       by_cases h3:e - b < z
       ·have g3:decide (((e - b:Nat):Int) < (z:Int))=true:=by simp;omega
        have Zp:=hid (sH.out.trans (if_pos ⟨h2,h3⟩));clear sH;go_wp2_with fail;go_roundw;case rel=>exact⟨i,i+z,i+z+1,m,by go_num,by go_num,by go_num,by omega,by omega,by omega,hid (by have:=HN2.out;omega),Zp,trivial⟩
        case measure=>simp[intOf];omega
       ·have g3:decide (((e - b:Nat):Int) < (z:Int))=false:=by simp;omega
        have Zp:=hid (sH.out.trans (if_neg (fun h=>h3 h.2)));clear sH;go_wp2_with fail;go_roundw;case rel=>exact⟨b,e,i+z+1,m,by go_num,by go_num,by go_num,by omega,by omega,by omega,hid (by have:=HN2.out;omega),Zp,trivial⟩
        case measure=>simp[intOf];omega
      ·have g2:decide ((2:Int)≤(z:Int))=false:=by simp;omega
       have Zp:=hid (sH.out.trans (if_neg (fun h=>h2 h.1)));clear sH;go_wp2_with fail;go_roundw;case rel=>exact⟨b,e,i+z+1,m,by go_num,by go_num,by go_num,by omega,by omega,by omega,hid (by have:=HN2.out;omega),Zp,trivial⟩
       case measure=>simp[intOf];omega
    ·have hjz:j=i+z:=by have h1:=hG.out;have h2:=HZ2.out;rw[Pv (by omega:l.length≤j)] at h1;omega
     subst hjz;have e1:IntKind.i64.wrap (((i+z:Nat):Int) - (i:Int))=(z:Int):=by rw[IntWalk.i64_in _ (by omega)];omega
     have e2:IntKind.i64.wrap ((e:Int) - (b:Int))=((e - b:Nat):Int):=by rw[IntWalk.i64_in _ (by omega)];omega
     clear hG;by_cases h2:2≤z
     ·have g2:decide ((2:Int)≤(z:Int))=true:=by simp;omega
      by_cases h3:e - b < z
      ·have g3:decide (((e - b:Nat):Int) < (z:Int))=true:=by simp;omega
       have Zp:=hid (sH.out.trans (if_pos ⟨h2,h3⟩));clear sH;go_wp2_with fail;go_roundw;case rel=>exact⟨i,i+z,i+z+1,m,by go_num,by go_num,by go_num,by omega,by omega,by omega,hid (by have:=HN2.out;omega),Zp,trivial⟩
       case measure=>simp[intOf];omega
      ·have g3:decide (((e - b:Nat):Int) < (z:Int))=false:=by simp;omega
       have Zp:=hid (sH.out.trans (if_neg (fun h=>h3 h.2)));clear sH;go_wp2_with fail;go_roundw;case rel=>exact⟨b,e,i+z+1,m,by go_num,by go_num,by go_num,by omega,by omega,by omega,hid (by have:=HN2.out;omega),Zp,trivial⟩
       case measure=>simp[intOf];omega
     ·have g2:decide ((2:Int)≤(z:Int))=false:=by simp;omega
      have Zp:=hid (sH.out.trans (if_neg (fun h=>h2 h.1)));clear sH;go_wp2_with fail;go_roundw;case rel=>exact⟨b,e,i+z+1,m,by go_num,by go_num,by go_num,by omega,by omega,by omega,hid (by have:=HN2.out;omega),Zp,trivial⟩
      case measure=>simp[intOf];omega
  ·have HF:Hid (Gm l=(b,e)):=hid (by rw[hF.out,Wq _ _ _ _ _ (by omega)]);clear hF;go_wp2_with fail;go_ret2;exact⟨by rw[HF.out];rfl,HB.out⟩
theorem Zq (w:World) (hW:Laid w):Calls Tryz.prog 172 #[.int .u64 16] w fun e w'=>e= .returned (.int .i64 4)∧w=w':=by have h:∀j,j < Lib.deBruijn64tab.length→w.cell? ⟨5,j,none⟩=some (.int .u8 (Lib.deBruijn64tab.getD j 0)):=fun j hj=>hW.bru j hj;refine(Any7.bits_TrailingZeros ahL 16 (by decide) w (fun _=>h)).mono ?_;rintro e w' ⟨h1,h2⟩;exact⟨h1,h2.symm⟩
theorem adC (w:World):Calls Tryz.prog 171 #[.int .i64 16] w fun e w'=>e= .returned (.bool true)∧w=w':=by
 have hb:bits .and .i64 16 15=0:=by kernel_rfl
 go_enter Tryz.func171,Tryz.ntmps171;go_wp2_with fail;go_ret;exact⟨rfl,rfl⟩
def Zr:Array Value:=(List.replicate 65 (.int .u8 0)).toArray
theorem Zs (w:World) (uX:Value):(Instr.alloc 189 true uX).run Tryz.prog w= .ok (.pointer (some ⟨w.heap.size,0,none⟩)) (w.alloc (.cells Zr 189)):=by kernel_rfl
def tP (d:List UInt8):Array Value:=(List.replicate (65 - d.length) (Value.int .u8 0)++d.map iN).toArray
theorem SM (d:List UInt8) (c:UInt8) (i:Nat) (h:i+d.length=64):(tP d).setIfInBounds i (.int .u8 (c.toNat:Int))=tP (c::d):=by
 unfold tP;rw[List.setIfInBounds_toArray];congr 1;have h1:65 - d.length=i+1:=by omega
 have h2:65 - (c::d).length=i:=by rw[List.length_cons];omega
 rw[h1,h2,List.set_append_left _ _ (by simp),List.replicate_succ'];rw[List.set_append_right _ _ (by simp)];simp[iN]
theorem F0 (d:List UInt8) (h:d.length≤65):(tP d).size=65:=by simp[tP];omega
theorem Wr (d:List UInt8) (h:d.length≤65) (j:Nat) (hj:j < d.length):(tP d)[65 - d.length+j]? =some (iN d[j]):=by unfold tP;rw[List.getElem?_toArray,List.getElem?_append_right (by simp)];simp[hj]
theorem akS (n:Nat) (hn:n < 65536):bits .and .u64 (n:Int) 15=((n % 16:Nat):Int):=by
 have agV:(BitVec.ofInt 64 15).toNat=2 ^ 4 - 1:=by decide
 have key:(BitVec.ofInt 64 n&&&BitVec.ofInt 64 15).toNat=n % 2 ^ 4:=by rw[BitVec.toNat_and,BitVec.toNat_ofInt,agV,Nat.and_two_pow_sub_one_eq_mod];omega
 show IntKind.u64.wrap ((BitVec.ofInt 64 n&&&BitVec.ofInt 64 15).toNat:Nat)=_;rw[key,IntKind.wrap_u64];omega
def I7:ByteArray:=⟨#[48,49,50,51,52,53,54,55,56,57,97,98,99,100,101,102,103,104,105,106,107,108,109,110,111,112,113,114,115,116,117,118,119,120,121,122]⟩
theorem Zt:∀i:Fin 16,I7[i.val]'(Nat.lt_trans i.isLt (by decide))=gL.getD i.val 0:=by decide+kernel
theorem Zu {n:Nat} (h:n < 16):pX n=[gL.getD n 0]:=by unfold pX;rw[if_pos h]
theorem Ws {n:Nat} (h:16≤n) (h2:n < 65536):pX n=pX (n / 16)++[gL.getD (n % 16) 0]:=by
 unfold pX;rw[if_neg (by omega)];by_cases h3:n < 256;·rw[if_pos h3,if_pos (by omega)];rfl
 ·rw[if_neg h3];by_cases h4:n < 4096
  ·rw[if_pos h4,if_neg (by omega),if_pos (by omega)];have:n / 16 / 16=n / 256:=by omega
   rw[this];rfl
  ·rw[if_neg h4,if_neg (by omega),if_neg (by omega),if_pos (by omega)];have e1:n / 16 / 256=n / 4096:=by omega
   have e2:n / 16 / 16 % 16=n / 256 % 16:=by omega
   rw[e1,e2];rfl
theorem Bu (n:Nat):1≤(pX n).length∧(pX n).length≤4:=by
 unfold pX;split;·simp
 split;·simp
 split;·simp
 ·simp
theorem Zv {w:World} {g k:Nat} {D:List UInt8} (h:Row w g 189 (tP D)) (hk:k+D.length=65):∀j u,(D.map iN)[j]? =some u→w.cell? ((⟨g,k,none⟩:Addr).add j)=some u:=by intro j u hu;rw[List.getElem?_map] at hu;obtain⟨c,hc,rfl⟩:=Option.map_eq_some_iff.1 hu;obtain⟨hj,rfl⟩:=List.getElem?_eq_some_iff.1 hc;rw[Addr.add_mid];have:=Wr D (by omega) j hj;rw[show 65 - D.length=k by omega] at this;exact h.cell this
theorem Wt {D:List UInt8}:∀u∈D.map iN,u.oneCell'=true:=by intro u hu;obtain⟨c,_,rfl⟩:=List.mem_map.1 hu;rfl
theorem Zw (g k n:Nat) (h:k+n=65) (hn:0 < n) (W:World):(Instr.sliceAt 189 (.pointer (some ⟨g,0,none⟩)) (some (.int .i64 (k:Int))) none none).run Tryz.prog W= .ok (.slice (some ⟨g,k,none⟩) n n) W:=by
 have hl:Tryz.prog.arrayLen 189=65:=by kernel_rfl
 have hu:Tryz.prog.underlying 189=some (.array (Tryz.prog.arrayLen 189) (Tryz.prog.elem 189)):=by kernel_rfl
 have hs:(sizeOf (Tryz.prog.elem 189)).run Tryz.prog W= .ok 1 W:=by kernel_rfl
 rw[run_sliceAt_array_l W 189 ⟨g,0,none⟩ hu .i64 (k:Int) (by omega) (by rw[hl];omega),hs,hl];have e1:¬(65=(k:Int).toNat):=by omega
 have e2:65 - (k:Int).toNat=n:=by omega
 have e3:(⟨g,0,none⟩:Addr).add (((k:Int).toNat)*1)=⟨g,k,none⟩:=by rw[CG];simp
 simp only[Result.andThen,slicedAt,if_neg e1,e2,e3]
theorem Fa (v:Value) (l:List UInt8) (n:Nat) (w:World) (base:Nat) (hW:Laid w) (hv:fC w base v l) (hb:base≤w.heap.size) (hl:l.length≤1000000000) (hn:n < 65536):
 Calls Tryz.prog 131 #[v,.int .u64 (n:Int),.int .i64 16,.bool false,.bool true] w fun e w'=>∃v',e= .returned (.tuple #[v',.string ⟨#[]⟩])∧fC w' base v' (l++pX n)∧Below base w w':=by
 have HW:=hid hW;have HV:=hid hv;have vN:Zr=tP []:=rfl;obtain⟨A,c,R1⟩:=hv.len;subst R1;clear hW hv;go_enter Tryz.func131,Tryz.ntmps131;go_wp2_with (refine eX rfl (Zs _) ?_;intro g w1 jK hA);obtain⟨hg,eN,rW⟩:=hA.out;have HB:=hid eN;have HG:Hid (w.heap.size≤g):=hid (by omega);rw[vN] at jK;clear hg eN rW hA vN;refine(adC _).mono ?_;rintro e w' ⟨rfl,rfl⟩;go_wp2_with fail;refine(Zq _ (HW.out.step HB.out)).mono ?_;rintro e w' ⟨rfl,rfl⟩;go_wp2_with fail;go_loopw [1,13] (fun x y wr=>∃(u:Nat) (d:List UInt8) (k:Nat),x= .int .u64 (u:Int)∧y= .int .i64 (k:Int)∧k+d.length=65∧61 < k∧u < 65536∧Row wr g 189 (tP d)∧Hid (pX n=pX u++d)∧Hid (Below w.heap.size w wr)) (fun x _ _=>(intOf x).toNat);case atStart=>exact⟨n,[],65,rfl,rfl,rfl,by omega,hn,jK,hid (by simp),HB⟩
 case round=>
  clear jK HB;obtain⟨u,d,k,rfl,rfl,hkd,aqC,hu,jK,hF,HB⟩:=hrel;have adD:∀(i:Nat) (h:i < 16) (hk:i < I7.size),I7[i]'hk=gL.getD i 0:=fun i h _=>Zt ⟨i,h⟩;obtain⟨k1,rfl⟩:∃k1,k=k1+1:=⟨k - 1,by omega⟩;have Ia:IntKind.i64.wrap (((k1+1:Nat):Int) - 1)=(k1:Int):=by rw[IntWalk.i64_in _ (by omega)];omega
  have adE:=fun c=>SM d c k1 (by omega);by_cases yT:16≤u
  ·have HX:Hid (pX n=pX (u / 16)++(gL.getD (u % 16) 0::d)):=hid (by rw[hF.out,Ws yT hu];simp);have hlen:62 < k1+1:=by have h1:=congrArg List.length HX.out;have h2:=(Bu n).2;have h3:=(Bu (u / 16)).1;simp at h1;omega
   have ha:=akS u hu;have hm:u % 16 < 16:=Nat.mod_lt _ (by decide);have rK:u % 16 < I7.size:=Nat.lt_trans hm (by decide);have hd:=adD (u % 16) hm rK;have UC:=adE (gL.getD (u % 16) 0);obtain⟨q,hq⟩:∃q,q=u / 16:=⟨_,rfl⟩;have hdiv:((u:Int) / 16)=(q:Int):=by rw[hq];omega
   have hqu:q < 65536∧q < u:=by omega
   rw[←hq] at HX;clear hq adD adE hF;generalize gL.getD (u % 16) 0=XK at*;generalize u % 16=m at*;unfold I7 at hd rK;have anQ:decide ((16:Int)≤(u:Int))=true:=by simp;omega
   go_wp2_with (refine dS rfl _ _ _ rfl _ _ _ rfl rfl rfl jK (by rw[F0 _ (by omega)];simp;omega) (by kernel_rfl) ?_;intro w2 aH aB);have cK:=hid (HB.out.trans (aB.1.mono HG.out));have rE:Row w2 g 189 ((tP d).setIfInBounds k1 (.int .u8 (XK.toNat:Int))):=aH;rw[UC] at rE;clear aH aB;go_roundw;case rel=>exact⟨q,XK::d,k1,rfl,rfl,by simp;omega,by omega,hqu.1,rE,HX,cK⟩
   case measure=>simp[intOf];omega
  ·have ahP:u < 16:=by omega
   have HX:Hid (pX n=gL.getD u 0::d):=hid (by rw[hF.out,Zu ahP];rfl);have rK:u < I7.size:=Nat.lt_trans ahP (by decide);have hd:=adD u ahP rK;have UC:=adE (gL.getD u 0);clear adD adE hF;generalize gL.getD u 0=XK at*;unfold I7 at hd rK;have anQ:decide ((16:Int)≤(u:Int))=false:=by simp;omega
   have CK:(XK::d).length≤4:=by rw[←HX.out];exact(Bu n).2
   have mD:k1+(XK::d).length=65:=by simp;omega
   obtain⟨D,hD⟩:∃D,D=XK::d:=⟨_,rfl⟩;rw[←hD] at UC HX CK mD;clear hD;have tE:=Zw g k1 D.length mD (by omega);obtain⟨i0,hi,vN,rW,qK⟩:=info_parts zI;go_wp2_with (first|(refine dS rfl _ _ _ rfl _ _ _ rfl rfl rfl jK (by rw[F0 _ (by omega)];simp;omega) (by kernel_rfl) ?_;intro w2 aH aB;have rE:=aH;clear aH;replace rE:Row w2 g 189 ((tP d).setIfInBounds k1 (.int .u8 (XK.toNat:Int))):=rE;rw[UC] at rE;have cK:=hid (HB.out.trans (aB.1.mono HG.out));clear aB)|(at_builtin;refine wpList_append_own w2 rfl _ _ 25 rfl base 5 i0 (.int .u8 0) 1 1 Tryz.underlying25 hi vN rW qK rfl (by decide) _ l.length (l.map iN) rfl (HV.out.below cK.out) ⟨g,k1,none⟩ D.length D.length (D.map iN) rfl (by simp) (Zv rE mD) Wt (by unfold maxLen;omega) (by omega) (by have:=cK.out.size;omega) ?_;intro v' w5 h1 h2 h3));have pF:fC w5 base v' (l++D):=by unfold fC;rw[List.length_append,List.map_append];exact h1
   have anR:=hid pF;have iI:=hid ((cK.out.mono hb).grown h2 (by have:=cK.out.size;omega) (fun k hk=>(World.ownsRow.lt HV.out k hk).1));clear h1 h2 h3 pF;go_wp2_with fail;go_ret2;exact⟨v',rfl,by rw[HX.out];exact anR.out,iI.out⟩
theorem lV (v:Value) (l:List UInt8) (n:Nat) (w:World) (base:Nat) (hW:Laid w) (hv:fC w base v l) (hb:base≤w.heap.size) (hl:l.length≤1000000000) (hn:n < 65536):
 Calls Tryz.prog 87 #[v,.int .u64 (n:Int),.int .i64 16] w fun e w'=>∃v',e= .returned v'∧fC w' base v' (l++pX n)∧Below base w w':=by
 have H:=hid (Fa v l n w base hW hv hb hl hn);clear hW hv;have H2:Hid (Calls Tryz.prog 127 #[v,.int .u64 (n:Int),.int .i64 16] w fun e w'=>∃v',e= .returned v'∧fC w' base v' (l++pX n)∧Below base w w'):=by refine hid ?_;go_enter Tryz.func127,Tryz.ntmps127;go_wp2_with fail;refine H.out.mono ?_;rintro e w' ⟨v',rfl,h1,h2⟩;have H1:=hid h1;clear h1;go_wp2_with fail;go_ret;exact⟨_,rfl,H1.out,h2⟩
 go_enter Tryz.func87,Tryz.ntmps87;go_wp2_with fail;refine H2.out.mono ?_;rintro e w' ⟨v',rfl,h1,h2⟩;have H1:=hid h1;clear h1;go_wp2_with fail;go_ret;exact⟨_,rfl,H1.out,h2⟩
theorem Zx (l:List Nat) (h8:l.length=8):∀n i b e,b≤e→e≤8→(vT l n i b e).1≤(vT l n i b e).2∧(vT l n i b e).2≤8:=by
 intro n;induction n with
 |zero=>intro i b e h1 h2;exact⟨h1,h2⟩
 |succ n ih=>
  intro i b e h1 h2;rw[vT];have hz:=I5 l i;simp only;split;·exact⟨h1,h2⟩
  split;·exact ih _ _ _ (by omega) (by omega)
  ·exact ih _ _ _ h1 h2
theorem adF (l:List Nat) (h8:l.length=8):(Gm l).1≤(Gm l).2∧(Gm l).2≤8:=Zx l h8 _ _ _ _ (Nat.le_refl _) (by omega)
theorem Px (s:ByteArray):Lib.strCells s=s.data.toList.map iN:=by rfl
theorem CT {ops:Array Oper} {rest:List Oper} {o:Oper} {a:Act} {Q:Exit→Act→World→Prop} (w:World) (base:Nat) (v:Value) (l s:List UInt8) (S:ByteArray) (hS:S=aA s)
 (tJ:o.guard=none) (x y:Operand) (ho:o.op= .call {callee:= .builtin .append,args:= #[x,y],argTypes:= #[25,9]})
 (hs:a.eval x=v) (bE:fC w base v l) (hx:a.eval y= .string S) (hlen:l.length≤1000000000) (Zy:s.length≤1000000000) (kW:base≤w.heap.size)
 (h:∀v' w',fC w' base v' (l++s)→Below base w w'→wpList Tryz.prog ops Q rest (a.put o.dst v') w'):wpList Tryz.prog ops Q (o::rest) a w:=by
 subst hS;have iV:=aD s;obtain⟨i0,hi,vN,rW,qK⟩:=info_parts zI;refine Lib.wpList_append_own_string w tJ x y 25 9 ho base 5 i0 Tryz.underlying25 Tryz.underlying9 hi vN rW qK v l.length (l.map iN) hs bE (aA s) hx (by unfold maxLen;omega) (by omega) kW fun v' w' h1 h2 _=>?_;refine h v' w' ?_ ((Below.refl _ _).grown h2 kW (fun k hk=>(World.ownsRow.lt bE k hk).1));unfold fC;rw[List.length_append,List.map_append];rw[Px,aC,iV] at h1;exact h1
theorem MV (a:List Nat) (b e n i:Nat) (h:i < 8):iB a b e (n+1) i=if i=b∧b < e then[58,58]++iB a b e n e else(if 0 < i∧(i≠e∨e=b) then[58] else[])++(pX (a.getD i 0)++iB a b e n (i+1)):=by rw[iB,if_neg (by omega)]
theorem Py (a:List Nat) (b e n i:Nat) (h:8≤i):iB a b e n i=[]:=by
 cases n with
 |zero=>rfl
 |succ n=>rw[iB,if_pos h]
theorem Wu (l:List Nat) (h8:l.length=8) (bC:∀x∈l,x < 65536) (w:World) (hW:Laid w):Calls Tryz.prog 51 #[Pu l] w fun e w'=>e= .returned (.string (aA (nY l)))∧Below w.heap.size w w':=by
 have HL:=hid (fun W=>I6 l h8 W);have HS:Hid (nY l=iB l (Gm l).1 (Gm l).2 9 0):=hid rfl;have hle:=adF l h8;generalize Gm l=z at*;obtain⟨b,e⟩:=z;simp only at HL HS hle;obtain⟨hbe,JS⟩:=hle;have HW:=hid hW;have HLT:=hid bC;have H30:Hid ((Tryz.prog.info? 30).map (·.size)=some (dW l).size):=hid (by rw[show(dW l).size=8 by simp[dW,h8]];kernel_rfl);clear hW bC;go_enter Tryz.func51,Tryz.ntmps51;go_wp2_with (first|(refine jG (arr:=(dW l)) rfl rfl ?_;intro g w1 jK hA)|(refine qR rfl 30 _ rfl _ rfl jK _ Tryz.underlying30 rfl H30.out ?_));obtain⟨hg,eN,rW⟩:=hA.out;have Cm:=hid eN;have HG:Hid (w.heap.size≤w1.heap.size):=hid (by omega);clear hg eN rW hA;refine(HL.out _).mono ?_;rintro e9 w2 ⟨rfl,dE⟩;have cK:=hid dE;clear dE;go_wp2_with fail;go_loopw [5,6] (fun v y wr=>∃(out:List UInt8) (i n:Nat),fC wr w1.heap.size v out∧y= .int .i64 (i:Int)∧i≤8∧out.length≤6*i∧Hid (9≤n+i)∧Hid (nY l=out++iB l b e n i)∧Hid (Below w1.heap.size w1 wr)) (fun _ y _=>8 - (intOf y).toNat);case atStart=>exact⟨[],0,9,fC.nil _ _,rfl,by omega,by simp,hid (by omega),hid HS.out,cK⟩
 case round=>
  clear cK;obtain⟨out,i,n,bE,rfl,hi8,hol,hn,hF,HB⟩:=hrel;have iV:=HB.out.size;by_cases bC:i < 8
  ·obtain⟨m,rfl⟩:∃m,n=m+1:=⟨n - 1,by have:=hn.out;omega⟩;have Ul:i < l.length:=by omega
   have hx:=HLT.out (l[i]'Ul) (List.getElem_mem Ul);have aW:=(jK.below HB.out).cell (EZ Ul);have tJ:l.getD i 0=l[i]'Ul:=by simp[Ul]
   have aT:=hF.out;rw[MV l b e m i bC,tJ] at aT;have hmi:9≤m+(i+1):=by have:=hn.out;omega
   have HMI:=hid hmi;have uF:=hid (jK.below HB.out);have HAT:=hid (EZ Ul);generalize l[i]'Ul=x at*;have Yy:=(Bu x).2;clear tJ hF hmi hn;have dO:(i=b∧b < e)∨(i≠b∧i=0)∨(i≠b∧0 < i∧i≠e)∨(i≠b∧0 < i∧i=e∧e≠b)∨(i=b∧b=e∧i=0)∨(i=b∧b=e∧0 < i):=by omega
   have hd8:decide ((i:Int) < 8)=true:=by simp;omega
   rcases dO with⟨c1,c2⟩|⟨c1,c2⟩|⟨c1,c2,c3⟩|⟨c1,c2,c3,c4⟩|⟨rfl,rfl,c3⟩|⟨rfl,rfl,c3⟩
   ·rw[if_pos ⟨c1,c2⟩] at aT;have HF:=hid aT;have t1:((i:Int)==(b:Int))=true:=by simp;omega
    have t2:decide (b < e)=true:=by simp;omega
    have t3:IntKind.i64.wrap ((e:Int) - 1)+1=(e:Int):=by rw[IntWalk.i64_in _ (by omega)];omega
    obtain⟨e1,aB⟩:∃e1,e=e1+1:=⟨e - 1,by omega⟩;have t4:IntKind.i64.wrap ((e:Int) - 1)=(e1:Int):=by rw[IntWalk.i64_in _ (by omega)];omega
    have HE:=hid aB;have he7:e1≤7:=by omega
    have HIE:Hid (i < e):=hid (by omega);have anS:Hid (out.length+2≤6*e):=hid (by omega);clear aW aT t3 aB c1 c2;go_wp2_with (at_builtin;refine CT wr w1.heap.size _ out [58,58] _ rfl rfl _ _ rfl rfl bE rfl (by omega) (by simp) iV ?_;intro v1 w5 dJ aM);go_roundw;case rel=>exact⟨out++[58,58],e,m,dJ,by have:=HE.out;congr 1;omega,JS,by rw[List.length_append];exact anS.out,hid (by have h8:=HMI.out;have h9:=HIE.out;omega),hid (by rw[HF.out];simp),hid (HB.out.trans aM)⟩
    case measure=>have h8:=HE.out;have h9:=HIE.out;simp[intOf];omega
   ·rw[if_neg (by omega),if_neg (by omega)] at aT;have t1:((i:Int)==(b:Int))=false:=by simp;omega
    have t2:decide (0 < i)=false:=by simp;omega
    clear c1 c2;have HF:Hid (nY l=out++pX x++iB l b e m (i+1)):=hid (by rw[aT];simp);clear aT;have iI:=HB;go_wp2_with fail;have adG:out.length≤6*i+1:=by omega
    generalize out=DQ at*;refine(lV _ DQ x _ w1.heap.size ((HW.out.step Cm.out).step iI.out) bE iV (by omega) hx).mono ?_;rintro e9 w6 ⟨v6,rfl,DR,fH⟩;have Ef:=hid (iI.out.trans fH);clear fH;go_wp2_with fail;go_roundw;case rel=>exact⟨DQ++pX x,i+1,m,DR,by go_num,by omega,by simp;omega,HMI,HF,Ef⟩
    case measure=>simp[intOf];omega
   ·rw[if_neg (by omega),if_pos (by omega)] at aT;have t1:((i:Int)==(b:Int))=false:=by simp;omega
    have t2:decide (0 < i)=true:=by simp;omega
    have t3:((i:Int)!=(e:Int))=true:=by simp;omega
    have t4:((i:Int)==(e:Int))=false:=by simp;omega
    clear c1 c2 c3;have HF:Hid (nY l=(out++[58])++pX x++iB l b e m (i+1)):=hid (by rw[aT];simp);clear aT aW;go_wp2_with (at_builtin;refine cJ wr w1.heap.size _ out 58 rfl rfl _ _ rfl rfl bE rfl (by omega) iV ?_;intro v1 w5 dJ aM;have iI:=hid (HB.out.trans aM);have aW:=(jK.below iI.out).cell HAT.out);have adG:(out++[58]).length≤6*i+1:=by simp;omega
    generalize out++[58]=DQ at*;have hz5:w1.heap.size≤w5.heap.size:=iI.out.size;refine(lV v1 DQ x w5 w1.heap.size ((HW.out.step Cm.out).step iI.out) dJ hz5 (by omega) hx).mono ?_;rintro e9 w6 ⟨v6,rfl,DR,fH⟩;have Ef:=hid (iI.out.trans fH);clear fH;go_wp2_with fail;go_roundw;case rel=>exact⟨DQ++pX x,i+1,m,DR,by go_num,by omega,by simp;omega,HMI,HF,Ef⟩
    case measure=>simp[intOf];omega
   ·rw[if_neg (by omega),if_neg (by omega)] at aT;have t1:((i:Int)==(b:Int))=false:=by simp;omega
    have t2:decide (0 < i)=true:=by simp;omega
    have t3:((i:Int)!=(e:Int))=false:=by simp;omega
    have t4:((e:Int)==(b:Int))=false:=by simp;omega
    have t5:((i:Int)==(e:Int))=true:=by simp;omega
    clear c1 c2 c3 c4;have HF:Hid (nY l=out++pX x++iB l b e m (i+1)):=hid (by rw[aT];simp);clear aT;have iI:=HB;go_wp2_with fail;have adG:out.length≤6*i+1:=by omega
    generalize out=DQ at*;refine(lV _ DQ x _ w1.heap.size ((HW.out.step Cm.out).step iI.out) bE iV (by omega) hx).mono ?_;rintro e9 w6 ⟨v6,rfl,DR,fH⟩;have Ef:=hid (iI.out.trans fH);clear fH;go_wp2_with fail;go_roundw;case rel=>exact⟨DQ++pX x,i+1,m,DR,by go_num,by omega,by simp;omega,HMI,HF,Ef⟩
    case measure=>simp[intOf];omega
   ·rw[if_neg (by omega),if_neg (by omega)] at aT;have t1:decide (0 < i)=false:=by simp;omega
    clear c3;have HF:Hid (nY l=out++pX x++iB l i i m (i+1)):=hid (by rw[aT];simp);clear aT;have iI:=HB;go_wp2_with fail;have adG:out.length≤6*i+1:=by omega
    generalize out=DQ at*;refine(lV _ DQ x _ w1.heap.size ((HW.out.step Cm.out).step iI.out) bE iV (by omega) hx).mono ?_;rintro e9 w6 ⟨v6,rfl,DR,fH⟩;have Ef:=hid (iI.out.trans fH);clear fH;go_wp2_with fail;go_roundw;case rel=>exact⟨DQ++pX x,i+1,m,DR,by go_num,by omega,by simp;omega,HMI,HF,Ef⟩
    case measure=>simp[intOf];omega
   ·rw[if_neg (by omega),if_pos (by omega)] at aT;have t1:decide (0 < i)=true:=by simp;omega
    clear c3;have HF:Hid (nY l=(out++[58])++pX x++iB l i i m (i+1)):=hid (by rw[aT];simp);clear aT aW;go_wp2_with (at_builtin;refine cJ wr w1.heap.size _ out 58 rfl rfl _ _ rfl rfl bE rfl (by omega) iV ?_;intro v1 w5 dJ aM;have iI:=hid (HB.out.trans aM);have aW:=(jK.below iI.out).cell HAT.out);have adG:(out++[58]).length≤6*i+1:=by simp;omega
    generalize out++[58]=DQ at*;have hz5:w1.heap.size≤w5.heap.size:=iI.out.size;refine(lV v1 DQ x w5 w1.heap.size ((HW.out.step Cm.out).step iI.out) dJ hz5 (by omega) hx).mono ?_;rintro e9 w6 ⟨v6,rfl,DR,fH⟩;have Ef:=hid (iI.out.trans fH);clear fH;go_wp2_with fail;go_roundw;case rel=>exact⟨DQ++pX x,i+1,m,DR,by go_num,by omega,by simp;omega,HMI,HF,Ef⟩
    case measure=>simp[intOf];omega
  ·have HF:Hid (nY l=out):=hid (by rw[hF.out,Py _ _ _ _ _ (by omega)];simp);have G2:=oD bE;have hd8:decide ((i:Int) < 8)=false:=by simp;omega
   clear hF;go_wp2_with fail;go_ret;exact⟨by rw[HF.out];rfl,Cm.out.trans (HB.out.mono HG.out)⟩
end Go.Proofs.YtmgmclkplepapaaGreatDoor
