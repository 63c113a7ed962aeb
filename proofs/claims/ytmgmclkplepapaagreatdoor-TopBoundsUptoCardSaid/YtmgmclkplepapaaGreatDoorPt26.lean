/- Part of the proof of TopBoundsUptoCardSaid. Conditions: none beyond the statement. -/
import Derived.Test.YtmgmclkplepapaaGreatDoorPt24
import Derived.Test.YtmgmclkplepapaaGreatDoorPt25
set_option linter.all false
set_option maxRecDepth 100000
set_option maxHeartbeats 64000000
namespace Go.Proofs.YtmgmclkplepapaaGreatDoor
open Go.RowKit
def RB (w:World) (v:Value) (l:List UInt8):Prop:=
 ∃A c,v= .slice A l.length c∧l.length≤c∧c≤maxLen∧(l≠[]→∃g off,A=some ⟨g,off,none⟩∧g < w.heap.size∧∀j (h:j < l.length),w.cell? ⟨g,off+j,none⟩=some (.int .u8 (l[j].toNat:Int)))
theorem eR.rb {w:World} {v:Value} {l:List UInt8} (h:eR w v l):RB w v l:=by
 rcases h with⟨rfl,rfl⟩|⟨g,off,c,rfl,hc,hm,aW⟩;·exact⟨none,0,rfl,Nat.le_refl _,Nat.zero_le _,fun h=>absurd rfl h⟩
 ·refine⟨_,c,rfl,hc,hm,fun eG=>⟨g,off,rfl,?_,aW⟩⟩;have h0:0 < l.length:=List.length_pos_iff.mpr eG;have h1:=aW 0 h0;rcases Nat.lt_or_ge g w.heap.size with bC|Ao;·exact bC
  ·simp[World.cell?,Array.getElem?_eq_none Ao] at h1
theorem RB.UA {w:World} {v:Value} {l:List UInt8} (h:RB w v l) (eG:l≠[]):eR w v l:=by obtain⟨A,c,rfl,hc,hm,h2⟩:=h;obtain⟨g,off,rfl,_,aW⟩:=h2 eG;exact .inr ⟨g,off,c,rfl,hc,hm,aW⟩
theorem RB.cut {w:World} {g off c k:Nat} {l:List UInt8} (hc:l.length≤c) (hm:c≤maxLen) (hg:g < w.heap.size) (h:∀j (h:j < l.length),w.cell? ⟨g,off+j,none⟩=some (.int .u8 (l[j].toNat:Int))) (hk:k≤l.length):
 RB w (.slice (if c=k then some ⟨g,off,none⟩ else some ⟨g,off+k,none⟩) (l.length - k) (c - k)) (l.drop k):=by
 have:=(eR.cut hc hm h hk).rb;rw[List.length_drop] at this;by_cases hck:c=k
 ·rw[if_pos hck];exact⟨_,_,by rw[List.length_drop],by rw[List.length_drop];omega,by omega,fun eG=>by
   exfalso;exact eG (List.drop_eq_nil_of_le (by omega))⟩
 ·rw[if_neg hck];exact this
theorem FZ (v:Value) (l:List UInt8) (w:World) (hW:Laid w) (hv:eR w v l) (hl:l.length≤1000000000):
 Calls Tryz.prog 48 #[v] w fun e w'=>e= .returned (.string (aA (dM l)))∧Below w.heap.size w w':=by
 have K6:=rY.fresh w;have sW:Below w.heap.size w (w.alloc (.cells #[.pointer none,.slice none 0 0] 65)):=(Below.refl _ _).alloc (Nat.le_refl _) _;have IE:=hid K6;have UB:=hid sW;have HV:=hid hv.rb;have HW:=hid hW;have HTL:=hid (BL _ l (Nat.le_refl _));clear K6 sW hv hW;go_enter Tryz.func48,Tryz.ntmps48;go_wp2_with fail;go_loopw [0] (fun a wr=>∃rest out:List UInt8,RB w a rest∧rest.length≤1000000000∧rY wr w.heap.size w.heap.size out∧Hid (dM l=out++dM rest)∧Hid (Below w.heap.size w wr)) (fun a _=>match a with| .slice _ n _=>n|_=>0);case atStart=>exact⟨l,[],HV.out,hl,IE.out,hid (by simp),UB⟩
 case round=>
  obtain⟨rest,out,Ks,UC,lA,hF,dR⟩:=hrel;have rC:=dR.out.size;obtain⟨A,c,rfl,hc,hm,aW⟩:=Ks;have jP:=hid lA;have HRB:Hid (RB w (.slice A rest.length c) rest):=hid ⟨A,c,rfl,hc,hm,aW⟩;clear lA;have hol:out.length≤3000000000:=by have h1:=HTL.out;have h2:=congrArg List.length hF.out;rw[List.length_append] at h2;omega
  by_cases hr:rest=[];·subst hr;have HF:Hid (dM l=out):=hid (by rw[hF.out,oP,List.append_nil]);clear hF aW;go_wp2_with fail;refine(eU _ _ _ out jP.out rC).mono ?_;rintro e w4 ⟨rfl,cG⟩;go_wp2_with fail;go_ret;exact⟨by rw[HF.out];rfl,dR.out.trans cG⟩
  ·obtain⟨g,off,rfl,hg,aW⟩:=aW hr;have hr0:0 < rest.length:=List.length_pos_iff.mpr hr;have HR:=hid hr;have hrd:eR wr (.slice (some ⟨g,off,none⟩) rest.length c) rest:=(HRB.out.UA hr).below dR.out;have Zl:=hid (EX _ rest wr (HW.out.step dR.out) hrd hr);have HBG:=hid (fun W (hb:Below w.heap.size w W)=>IU _ rest W ((HRB.out.UA hr).below hb) hr);have VT:=qC rest;have hW1:¬((cH rest).1=65533∧(cH rest).2=1)→(cH rest).2≤rest.length:=fun h=>(kC rest hr _ _ rfl (fun h1 h2=>h ⟨h1,h2⟩)).le;have HC:=hid aW;clear aW hr hrd;by_cases GH:(cH rest).1=65533∧(cH rest).2=1
   ·obtain⟨h1,h2⟩:=GH;have aT:=hF.out;rw[xM HR.out ⟨h1,h2⟩] at aT;rw[h1,h2] at Zl;have apZ:=zA rest;have anP:=KJ rest HR.out;have HF:Hid (dM l=(out++[0xef,0xbf,0xbd])++dM (rest.drop (lB rest))):=hid (by rw[aT];simp);clear hF aT h1 h2 VT hW1;generalize lB rest=k at*;go_wp2_with fail;refine Zl.out.mono ?_;rintro e w4 ⟨rfl,cG⟩;have fG:=hid cG;have aqA:=cG.size;clear cG;go_wp2_with fail;refine(cO w4 w.heap.size w.heap.size out ⟨#[239,191,189]⟩ (rP jP.out fG.out) (by simp[ByteArray.size];omega) (by omega)).mono ?_;rintro e w5 ⟨rfl,Pu,aM⟩;have iJ:=hid ((dR.out.trans (fG.out.mono rC)).trans aM);have IX:=hid Pu;clear aM Pu;go_wp2_with fail;refine(HBG.out _ iJ.out).mono ?_;rintro e w' ⟨rfl,rfl⟩;go_wp2_with fail;go_roundw;case rel=>exact⟨rest.drop k,out++[0xef,0xbf,0xbd],RB.cut hc hm hg HC.out anP,by rw[List.length_drop];omega,IX.out,HF,iJ⟩
    case measure=>simp;omega
   ·have hle:=hW1 GH;have aT:=hF.out;rw[pQ HR.out GH] at aT;have HF:Hid (dM l=(out++rest.take (cH rest).2)++dM (rest.drop (cH rest).2)):=hid (by rw[aT];simp);have As:(rest.take (cH rest).2).length=(cH rest).2:=by rw[List.length_take];omega
    have htn:rest.take (cH rest).2≠[]:=by intro h;rw[h] at As;simp at As;omega
    have akQ:out.length+(cH rest).2≤4000000000:=by omega
    have DP:=hid (fun w1 (hb:rY w1 w.heap.size w.heap.size out) (hB:Below w.heap.size w w1)=>MM w1 w.heap.size w.heap.size out (rest.take (cH rest).2) g off c hb (by rw[As];exact akQ) hB.size htn hg (fun j hj=>by
     rw[As] at hj;rw[List.getElem_take];exact(hB.cell (p:=⟨g,off+j,none⟩) hg).trans (HC.out j (by omega))))
    rw[As] at DP;have aqB:(cH rest).1≤1114111:=by have:=(kC rest HR.out _ _ rfl (fun h1 h2=>GH ⟨h1,h2⟩)).ok;omega
    clear hF aT hW1 As htn;by_cases h1:(cH rest).1=65533
    ·have h2:¬(cH rest).2=1:=fun h=>GH ⟨h1,h⟩;rw[h1] at Zl;clear GH h1;generalize (cH rest).2=k at*;have h2':((k:Int)==1)=false:=by simp;omega
     go_wp2_with fail;refine Zl.out.mono ?_;rintro e w4 ⟨rfl,cG⟩;have fG:=bU dR cG rC;have CS:=hid (rP jP.out cG);clear cG;go_wp2_with fail;refine(DP.out w4 CS.out fG.out).mono ?_;rintro e w5 ⟨rfl,Pu,aM⟩;have iJ:=hid (fG.out.trans aM);have IX:=hid Pu;clear aM Pu;go_wp2_with fail;go_roundw;case rel=>exact⟨rest.drop k,out++rest.take k,RB.cut hc hm hg HC.out hle,by rw[List.length_drop];omega,IX.out,HF,iJ⟩
     case measure=>simp;omega
    ·generalize (cH rest).2=k at*;generalize (cH rest).1=r at*;have h1':((r:Int)==65533)=false:=by simp;omega
     clear GH h1;go_wp2_with fail;refine Zl.out.mono ?_;rintro e w4 ⟨rfl,cG⟩;have fG:=bU dR cG rC;have CS:=hid (rP jP.out cG);clear cG;go_wp2_with fail;refine(DP.out w4 CS.out fG.out).mono ?_;rintro e w5 ⟨rfl,Pu,aM⟩;have iJ:=hid (fG.out.trans aM);have IX:=hid Pu;clear aM Pu;go_wp2_with fail;go_roundw;case rel=>exact⟨rest.drop k,out++rest.take k,RB.cut hc hm hg HC.out hle,by rw[List.length_drop];omega,IX.out,HF,iJ⟩
     case measure=>simp;omega
theorem MR {l:List UInt8} (h:l≠[]):(cH l).1≤1114111∧(cH l).2≤l.length:=by
 by_cases hb:(cH l).1=65533∧(cH l).2=1;·have:0 < l.length:=List.length_pos_iff.mpr h;omega
 ·have W:=kC l h _ _ rfl (fun h1 h2=>hb ⟨h1,h2⟩);have h1:=W.ok;have h2:=W.le;omega
theorem I1 (s:ByteArray) (w:World):eR (w.alloc (.cells (bytesRow s (grownCap w s.size 0 5)) 5 ((bytesRow s (grownCap w s.size 0 5)).size,(bytesRow s (grownCap w s.size 0 5)).size+1))).drew (.slice (some ⟨w.heap.size,0,none⟩) s.size (grownCap w s.size 0 5)) s.data.toList∨maxLen < s.size:=by
 by_cases hm:s.size≤maxLen
 ·left;have h1:=Dn s w (grownCap w s.size 0 5) 5;have hlen:s.data.toList.length=s.size:=by simp
  refine .inr ⟨w.heap.size,0,_,by rw[hlen],by rw[hlen];exact grownCap_ge _ _ _ _,grownCap_le_maxLen _ _ _ _ hm,fun j hj=>?_⟩;rw[Nat.zero_add];exact(h1 j hj).1
 ·right;omega
theorem pB.iterAt {w:World} {base k:Nat} {v:Value} {l:List Nat} (h:pB w base v l) (hk:k < base) (s:ByteArray) (p:Nat):pB (w.iterAt k s p) base v l:=ownsRow_iterAt h hk s p
theorem I2 (l:List UInt8) (w:World) (hW:Laid w) (hl:l.length≤1000000000):
 Calls Tryz.prog 216 #[.string (aA l)] w fun e w'=>∃v,e= .returned v∧pB w' w.heap.size v (dC (dM l))∧Below w.heap.size w w':=by
 have G3:=run_bytes_of_string (P:=Tryz.prog) w 9 25 5 (aA l) Tryz.underlying9 Tryz.underlying25 Tryz.underlying5;have Ks:=I1 (aA l) w;rw[aC] at Ks;have SI:=Ks.resolve_right (by rw[aD];unfold maxLen;omega);have uE:=Below.made (aA l) w (grownCap w (aA l).size 0 5) 5;generalize grownCap w (aA l).size 0 5=cap at*;have HRB:=hid SI;have UB:=hid uE;have hW1:=hW.step uE;generalize Ib:(w.alloc (.cells (bytesRow (aA l) cap) 5 ((bytesRow (aA l) cap).size,(bytesRow (aA l) cap).size+1))).drew=w1 at*;have HT:=hid (FZ (.slice (some ⟨w.heap.size,0,none⟩) (aA l).size cap) l w1 hW1 SI hl);have Co:=uE.size;have hTl:=BL _ l (Nat.le_refl _);generalize dM l=T at*;have HW1:=hid Ib;clear Ks SI uE Ib;go_enter Tryz.func216,Tryz.ntmps216;go_wp2_with fail;rw[HW1.out];refine HT.out.mono ?_;rintro e w2 ⟨rfl,dE⟩;have cK:=bU UB dE Co;have We:=dE.size;clear dE G3;go_wp2_with fail;go_loopw [3] (fun v wr=>∃(acc:List Nat) (pos:Nat),pB wr (w2.heap.size+1) v acc∧wr.heap[w2.heap.size]? =some (.stringIter (aA T) pos)∧acc.length≤pos∧Hid (dC T=acc++dC (T.drop pos))∧Hid (Below w.heap.size w wr)∧w2.heap.size+1≤wr.heap.size) (fun _ wr=>T.length - wr.iterPos w2.heap.size);case atStart=>exact⟨[],0,pB.nil _ _,World.iter_heap _ _ _,Nat.le_refl _,hid (by simp),hid (cK.out.alloc (by omega) _),by simp[World.iter]⟩
 case round=>
  obtain⟨acc,pos,bE,hit,Zk,hF,dR,iW⟩:=hrel;by_cases bC:pos < T.length
  ·have hps:pos < (aA T).size:=by rw[aD];exact bC
   have eG:T.drop pos≠[]:=by intro h;have:=congrArg List.length h;simp at this;omega
   have Zm:=fun ty=>Lib.run_next_any_at (P:=Tryz.prog) wr w2.heap.size (aA T) pos ty hit hps;have aT:=hF.out;rw[sN eG,List.drop_drop] at aT;obtain⟨aH,rF⟩:=MR eG;have VT:=qC (T.drop pos);rw[List.length_drop] at rF;simp only[BZ] at Zm;generalize (cH (T.drop pos)).1=r at*;generalize (cH (T.drop pos)).2=k at*;have HF:Hid (dC T=(acc++[r])++dC (T.drop (pos+k))):=hid (by rw[aT];simp);have oV:=bE.iterAt (by omega:w2.heap.size < w2.heap.size+1) (aA T) (pos+k);have GL:=Lib.iterAt_heap wr w2.heap.size (aA T) pos (pos+k) hit;have fG:=hid (Lib.below_iterAt dR.out (show w.heap.size≤w2.heap.size by omega) (aA T) (pos+k));have anQ:=Lib.iterAt_size wr w2.heap.size (aA T) (pos+k);have akR:wr.iterPos w2.heap.size=pos:=by unfold World.iterPos;rw[hit]
   generalize hw4:wr.iterAt w2.heap.size (aA T) (pos+k)=w4 at*;have ahO:w2.heap.size+1≤w4.heap.size:=by omega
   have MS:=hid GL;have HIP:=hid akR;clear hF aT hit GL hw4 anQ eG bE akR;go_wp2_with (at_builtin;refine wB w4 (w2.heap.size+1) _ acc r rfl rfl _ _ rfl rfl oV rfl (by omega) ahO ?_;intro v1 w5 dJ eN);go_roundw;case rel=>exact⟨acc++[r],pos+k,dJ,(eN.block _ (by omega)).trans MS.out,by simp;omega,HF,hid (fG.out.trans (eN.mono (by omega))),by have:=eN.size;omega⟩
   case measure=>
    have h1:w5.iterPos w2.heap.size=pos+k:=by unfold World.iterPos;rw[(eN.block _ (by omega)).trans MS.out]
    rw[h1,HIP.out];omega
  ·have Zm:=fun ty=>Lib.run_next_end_at (P:=Tryz.prog) wr w2.heap.size (aA T) pos ty hit (by rw[aD];omega);have HF:Hid (dC T=acc):=hid (by rw[hF.out,List.drop_eq_nil_of_le (by omega),mI,List.append_nil]);clear hF;go_wp2_with fail;go_ret;exact⟨_,rfl,by rw[HF.out];exact bE.mono (by omega),dR.out⟩
def AA (c:UInt8):List UInt8:=
 if c=38 then[38,97,109,112,59] else if c=34 then[38,35,51,52,59] else if c=39 then[38,35,51,57,59]
 else if c=60 then[38,35,54,48,59] else if c=62 then[38,35,54,50,59] else if c=96 then[38,35,57,54,59] else[]
def six (c:UInt8):Bool:=c==38||(c==34||(c==39||(c==60||(c==62||c==96))))
def GM (c:UInt8):List UInt8:=if AA c=[] then[c] else AA c
def gY (l:List UInt8):List UInt8:=l.flatMap GM
theorem SJ:gY []=[]:=rfl
theorem F0 (c:UInt8) (l:List UInt8):gY (c::l)=GM c++gY l:=by simp[gY]
theorem SK (a b:List UInt8):gY (a++b)=gY a++gY b:=by simp[gY]
theorem Ll {c:UInt8} (h:six c=true):c=38∨c=34∨c=39∨c=60∨c=62∨c=96:=by simpa[six] using h
theorem DQ {c:UInt8} (h:six c=true):GM c=AA c∧AA c≠[]∧(AA c).length=5:=by rcases Ll h with rfl|rfl|rfl|rfl|rfl|rfl<;>decide
theorem MT {c:UInt8} (h:six c=false):AA c=[]∧GM c=[c]:=by
 have h':¬(c=38∨c=34∨c=39∨c=60∨c=62∨c=96):=by simpa[six] using h
 have e:AA c=[]:=by unfold AA;rw[if_neg (by intro e;exact h' (by simp[e])),if_neg (by intro e;exact h' (by simp[e])),if_neg (by intro e;exact h' (by simp[e])),if_neg (by intro e;exact h' (by simp[e])),if_neg (by intro e;exact h' (by simp[e])),if_neg (by intro e;exact h' (by simp[e]))]
 exact⟨e,by unfold GM;rw[if_pos e]⟩
theorem Zn (c:UInt8):1≤(GM c).length∧(GM c).length≤5:=by
 cases h:six c with
 |false=>rw[(MT h).2];simp
 |true=>rw[(DQ h).1,(DQ h).2.2];omega
theorem I5 (l:List UInt8):l.length≤(gY l).length∧(gY l).length≤5*l.length:=by
 induction l with
 |nil=>simp[SJ]
 |cons c r ih=>rw[F0];have:=Zn c;simp only[List.length_append,List.length_cons];omega
theorem uO {c:UInt8} {n:Nat} (hn:n < 256) (h:c≠UInt8.ofNat n):((c.toNat:Int)==(n:Int))=false:=by rw[My c n hn];simpa using h
set_option maxHeartbeats 10000000000 in
theorem Kt (c:UInt8) (w:World):Calls Tryz.prog 67 #[.int .u8 (c.toNat:Int)] w fun e w'=>e= .returned (.string (aA (AA c)))∧w=w':=by
 cases h:six c with
 |false=>
  have he:=(MT h).1;have hn:¬(c=38∨c=34∨c=39∨c=60∨c=62∨c=96):=by simpa[six] using h
  have k38:((c.toNat:Int)==38)=false:=uO (n:=38) (by decide) (fun e=>hn (by rw[e];decide));have k34:((c.toNat:Int)==34)=false:=uO (n:=34) (by decide) (fun e=>hn (by rw[e];decide));have k39:((c.toNat:Int)==39)=false:=uO (n:=39) (by decide) (fun e=>hn (by rw[e];decide));have k60:((c.toNat:Int)==60)=false:=uO (n:=60) (by decide) (fun e=>hn (by rw[e];decide));have k62:((c.toNat:Int)==62)=false:=uO (n:=62) (by decide) (fun e=>hn (by rw[e];decide));have k96:((c.toNat:Int)==96)=false:=uO (n:=96) (by decide) (fun e=>hn (by rw[e];decide));have HE:=hid he;clear hn h he;go_enter Tryz.func67,Tryz.ntmps67;go_wp2;go_ret;exact⟨by rw[HE.out];rfl,rfl⟩
 |true=>
  rcases Ll h with rfl|rfl|rfl|rfl|rfl|rfl;all_goals
   clear h;go_enter Tryz.func67,Tryz.ntmps67;go_wp2;go_ret;exact⟨rfl,rfl⟩
theorem SL (s:ByteArray) (k:Nat) (h:k < s.size):s.data.toList.take (k+1)=s.data.toList.take k++[s[k]]:=by rw[List.take_succ_eq_append_getElem (by simpa using h)];rfl
theorem Wp (s:ByteArray) (k:Nat) (h:k≤s.size):(s.data.toList.take k).length=k:=by rw[List.length_take];simp;omega
theorem Wq (s:ByteArray):s.data.toList.take s.size=s.data.toList:=List.take_of_length_le (by simp)
set_option maxHeartbeats 10000000000 in
theorem MU (s:ByteArray) (w:World) (hs:s.size≤100000000):
 Calls Tryz.prog 38 #[.string s] w fun e w'=>e= .returned (.string (aA (gY s.data.toList)))∧Below w.heap.size w w':=by
 have K6:=rY.fresh w;have sW:Below w.heap.size w (w.alloc (.cells #[.pointer none,.slice none 0 0] 65)):=(Below.refl _ _).alloc (Nat.le_refl _) _;have IE:=hid K6;have UB:=hid sW;clear K6 sW;go_enter Tryz.func38,Tryz.ntmps38;go_wp2_with fail;go_loopw [8] (fun i wr=>∃k:Nat,k≤s.size∧i= .int .i64 k∧rY wr w.heap.size w.heap.size (gY (s.data.toList.take k))∧Below w.heap.size w wr) (fun i _=>s.size - (intOf i).toNat);case atStart=>exact⟨0,Nat.zero_le _,rfl,IE.out,UB.out⟩
 case round=>
  obtain⟨k,hk,rfl,lA,dB⟩:=hrel;have jP:=hid lA;have dR:=hid dB;clear lA dB;by_cases bC:k < s.size
  ·have hn:Hid (gY (s.data.toList.take (k+1))=gY (s.data.toList.take k)++GM s[k]):=hid (by rw[SL s k bC,SK];simp[gY]);have Ui:(gY (s.data.toList.take k)).length≤1000000000:=by have:=(I5 (s.data.toList.take k)).2;rw[Wp s k hk] at this;omega
   have akS:=hid (fun w=>Kt s[k] w);have uX:(s[k]).toNat < 256:=s[k].toNat_lt;have zW:=cC (AA s[k]);cases h6:six s[k] with
   |false=>
    have he:(aA (AA s[k])).toList.isEmpty=true:=by rw[zW,(MT h6).1];rfl
    have HN:Hid (GM s[k]=[s[k]]):=hid (MT h6).2;have HW:=hid (fun w1 hb Co=>iQ w1 w.heap.size w.heap.size (gY (s.data.toList.take k)) s[k] rfl hb (by omega) Co);generalize aA (AA s[k])=x at*;clear zW h6;go_wp2_with fail;refine(akS.out _).mono ?_;rintro e w' ⟨rfl,rfl⟩;go_wp2_with fail;refine(HW.out _ jP.out dR.out.size).mono ?_;rintro e w4 ⟨rfl,cG,Zo⟩;have fG:=hid cG;have ahP:=hid (dR.out.trans Zo);clear cG Zo;go_wp2_with fail;go_roundw;case rel=>exact⟨k+1,by omega,by go_num,by rw[hn.out,HN.out];exact fG.out,ahP.out⟩
    case measure=>simp[intOf];omega
   |true=>
    have eG:=(DQ h6).2.1;have he:(aA (AA s[k])).toList.isEmpty=false:=by rw[zW];cases hq:AA s[k] with|nil=>exact absurd hq eG|cons a b=>rfl
    have HN:Hid (GM s[k]=AA s[k]):=hid (DQ h6).1;have hz:(aA (AA s[k])).size≤5:=by rw[aD,(DQ h6).2.2];omega
    have HW:=hid (fun w1 hb Co=>cO w1 w.heap.size w.heap.size (gY (s.data.toList.take k)) (aA (AA s[k])) hb (by omega) Co);rw[aC] at HW;generalize aA (AA s[k])=x at*;clear zW h6 eG;go_wp2_with fail;refine(akS.out _).mono ?_;rintro e w' ⟨rfl,rfl⟩;go_wp2_with fail;refine(HW.out _ jP.out dR.out.size).mono ?_;rintro e w4 ⟨rfl,cG,Zo⟩;have fG:=hid cG;have ahP:=hid (dR.out.trans Zo);clear cG Zo;go_wp2_with fail;go_roundw;case rel=>exact⟨k+1,by omega,by go_num,by rw[hn.out,HN.out];exact fG.out,ahP.out⟩
    case measure=>simp[intOf];omega
  ·obtain rfl:k=s.size:=by omega
   have HF:Hid (gY (s.data.toList.take s.size)=gY s.data.toList):=hid (by rw[Wq]);go_wp2_with fail;refine(eU _ _ _ _ jP.out dR.out.size).mono ?_;rintro e w4 ⟨rfl,cG⟩;have fG:=hid (dR.out.trans cG);clear cG;go_wp2_with fail;go_ret;exact⟨by rw[←HF.out];rfl,fG.out⟩
def dW (l:List Nat):Array Value:=(l.map eY).toArray
def Pv (l:List Nat):Value:= .agg (dW l)
theorem Fa {l:List Nat} {i:Nat} (h:i < l.length):(dW l)[i]? =some (.int .u16 (l[i]'h:Int)):=by simp[dW,h,eY]
theorem Pw {a:List Nat} {i:Nat} (h:a.length≤i):iV a i=0:=by unfold iV;rw[List.drop_eq_nil_of_le h];rfl
theorem MV {a:List Nat} {i:Nat} (h:i < a.length) (h0:a[i]=0):iV a i=iV a (i+1)+1:=by unfold iV;rw[List.drop_eq_getElem_cons h,List.takeWhile_cons,h0];simp
theorem Px {a:List Nat} {i:Nat} (h:i < a.length) (h0:a[i]≠0):iV a i=0:=by unfold iV;rw[List.drop_eq_getElem_cons h,List.takeWhile_cons];simp[h0]
theorem I6 (a:List Nat) (i:Nat):iV a i≤a.length - i:=by unfold iV;have h:((a.drop i).takeWhile (· ==0)).length≤(a.drop i).length:=(List.takeWhile_sublist (l:=a.drop i) (· ==0)).length_le;rw[List.length_drop] at h;exact h
theorem SM (a:List Nat) (n i b e:Nat) (h:i < 8):vU a (n+1) i b e=if 2≤iV a i∧e - b < iV a i then vU a n (i+iV a i+1) i (i+iV a i) else vU a n (i+iV a i+1) b e:=by rw[vU,if_neg (by omega)]
theorem Wr (a:List Nat) (n i b e:Nat) (h:8≤i):vU a n i b e=(b,e):=by
 cases n with
 |zero=>rfl
 |succ n=>rw[vU,if_pos h]
theorem I7 (l:List Nat) (h8:l.length=8) (w:World):Calls Tryz.prog 88 #[Pv l] w fun e w'=>e= .returned (.tuple #[.int .i64 ((Gn l).1:Int),.int .i64 ((Gn l).2:Int)])∧Below w.heap.size w w':=by
 go_enter Tryz.func88,Tryz.ntmps88;go_wp2_with (refine jH (arr:=(dW l)) rfl rfl ?_;intro g w1 jL hA);obtain⟨hg,hb,hz⟩:=hA.out;have HB:=hid hb;clear hg hb hz hA;go_loopw [4,5,6] (fun x y z wr=>∃b e i n:Nat,x= .int .i64 (b:Int)∧y= .int .i64 (e:Int)∧z= .int .i64 (i:Int)∧b≤e∧e≤8∧i≤9∧Hid (9≤n+i)∧Hid (Gn l=vU l n i b e)∧w1=wr) (fun _ _ z _=>9 - (intOf z).toNat);case atStart=>exact⟨0,0,0,9,rfl,rfl,rfl,Nat.le_refl _,by omega,by omega,hid (by omega),hid rfl,rfl⟩
 case round=>
  obtain⟨b,e,i,n,rfl,rfl,rfl,hbe,JT,hi9,hn,hF,rfl⟩:=hrel;by_cases bC:i < 8
  ·obtain⟨m,rfl⟩:∃m,n=m+1:=⟨n - 1,by have:=hn.out;omega⟩;have aT:=hF.out;rw[SM l m i b e bC] at aT;have Uj:=I6 l i;have HZ:Hid (∃z,z=iV l i):=hid ⟨_,rfl⟩;obtain⟨z,hz⟩:=HZ.out;rw[←hz] at aT Uj;have aqC:i+z≤8:=by omega
   have HZ2:=hid hz;have sI:=hid aT;have HN2:=hid hn.out;clear hF aT hz Uj HZ hn;have hd8:decide ((i:Int) < 8)=true:=by simp;omega
   go_wp2_with fail;clear hd8;go_loopw [7] (fun v wr=>∃j:Nat,v= .int .i64 (j:Int)∧i≤j∧j≤8∧Hid (iV l i=(j - i)+iV l j)∧w1=wr) (fun v _=>8 - (intOf v).toNat);case atStart=>exact⟨i,rfl,Nat.le_refl _,by omega,hid (by omega),rfl⟩
   case round=>
    obtain⟨j,rfl,hij,hj8,hG,rfl⟩:=hrel;by_cases hjl:j < 8
    ·have Zp:j < l.length:=by omega
     have aW:=jL.cell (Fa Zp);by_cases h0:l[j]'Zp=0
     ·have HG:Hid (iV l i=(j+1 - i)+iV l (j+1)):=hid (by rw[hG.out,MV Zp h0];omega);rw[h0] at aW;clear hG h0;go_wp2_with fail;go_roundw;case rel=>exact⟨j+1,by go_num,by omega,by omega,HG,trivial⟩
      case measure=>simp[intOf];omega
     ·have hjz:j=i+z:=by have h1:=hG.out;have h2:=HZ2.out;rw[Px Zp h0] at h1;omega
      obtain⟨u,hu⟩:∃u,u=l[j]'Zp:=⟨_,rfl⟩;rw[←hu] at h0 aW;have QN:((u:Int)==0)=false:=by rw[beq_eq_false_iff_ne];omega
      clear hu;subst hjz;have e1:IntKind.i64.wrap (((i+z:Nat):Int) - (i:Int))=(z:Int):=by rw[IntWalk.i64_in _ (by omega)];omega
      have e2:IntKind.i64.wrap ((e:Int) - (b:Int))=((e - b:Nat):Int):=by rw[IntWalk.i64_in _ (by omega)];omega
      clear hG;by_cases h2:2≤z
      ·have g2:decide ((2:Int)≤(z:Int))=true:=by simp;omega
       by_cases h3:e - b < z
       ·have g3:decide (((e - b:Nat):Int) < (z:Int))=true:=by simp;omega
        have Zq:=hid (sI.out.trans (if_pos ⟨h2,h3⟩));clear sI;go_wp2_with fail;go_roundw;case rel=>exact⟨i,i+z,i+z+1,m,by go_num,by go_num,by go_num,by omega,by omega,by omega,hid (by have:=HN2.out;omega),Zq,trivial⟩
        case measure=>simp[intOf];omega
       ·have g3:decide (((e - b:Nat):Int) < (z:Int))=false:=by simp;omega
        have Zq:=hid (sI.out.trans (if_neg (fun h=>h3 h.2)));clear sI;go_wp2_with fail;go_roundw;case rel=>exact⟨b,e,i+z+1,m,by go_num,by go_num,by go_num,by omega,by omega,by omega,hid (by have:=HN2.out;omega),Zq,trivial⟩
        case measure=>simp[intOf];omega
      ·have g2:decide ((2:Int)≤(z:Int))=false:=by simp;omega
       have Zq:=hid (sI.out.trans (if_neg (fun h=>h2 h.1)));clear sI;go_wp2_with fail;go_roundw;case rel=>exact⟨b,e,i+z+1,m,by go_num,by go_num,by go_num,by omega,by omega,by omega,hid (by have:=HN2.out;omega),Zq,trivial⟩
       case measure=>simp[intOf];omega
    ·have hjz:j=i+z:=by have h1:=hG.out;have h2:=HZ2.out;rw[Pw (by omega:l.length≤j)] at h1;omega
     subst hjz;have e1:IntKind.i64.wrap (((i+z:Nat):Int) - (i:Int))=(z:Int):=by rw[IntWalk.i64_in _ (by omega)];omega
     have e2:IntKind.i64.wrap ((e:Int) - (b:Int))=((e - b:Nat):Int):=by rw[IntWalk.i64_in _ (by omega)];omega
     clear hG;by_cases h2:2≤z
     ·have g2:decide ((2:Int)≤(z:Int))=true:=by simp;omega
      by_cases h3:e - b < z
      ·have g3:decide (((e - b:Nat):Int) < (z:Int))=true:=by simp;omega
       have Zq:=hid (sI.out.trans (if_pos ⟨h2,h3⟩));clear sI;go_wp2_with fail;go_roundw;case rel=>exact⟨i,i+z,i+z+1,m,by go_num,by go_num,by go_num,by omega,by omega,by omega,hid (by have:=HN2.out;omega),Zq,trivial⟩
       case measure=>simp[intOf];omega
      ·have g3:decide (((e - b:Nat):Int) < (z:Int))=false:=by simp;omega
       have Zq:=hid (sI.out.trans (if_neg (fun h=>h3 h.2)));clear sI;go_wp2_with fail;go_roundw;case rel=>exact⟨b,e,i+z+1,m,by go_num,by go_num,by go_num,by omega,by omega,by omega,hid (by have:=HN2.out;omega),Zq,trivial⟩
       case measure=>simp[intOf];omega
     ·have g2:decide ((2:Int)≤(z:Int))=false:=by simp;omega
      have Zq:=hid (sI.out.trans (if_neg (fun h=>h2 h.1)));clear sI;go_wp2_with fail;go_roundw;case rel=>exact⟨b,e,i+z+1,m,by go_num,by go_num,by go_num,by omega,by omega,by omega,hid (by have:=HN2.out;omega),Zq,trivial⟩
      case measure=>simp[intOf];omega
  ·have HF:Hid (Gn l=(b,e)):=hid (by rw[hF.out,Wr _ _ _ _ _ (by omega)]);clear hF;go_wp2_with fail;go_ret2;exact⟨by rw[HF.out];rfl,HB.out⟩
theorem Zr (w:World) (hW:Laid w):Calls Tryz.prog 172 #[.int .u64 16] w fun e w'=>e= .returned (.int .i64 4)∧w=w':=by have h:∀j,j < Lib.deBruijn64tab.length→w.cell? ⟨5,j,none⟩=some (.int .u8 (Lib.deBruijn64tab.getD j 0)):=fun j hj=>hW.bru j hj;refine(Any7.bits_TrailingZeros ahM 16 (by decide) w (fun _=>h)).mono ?_;rintro e w' ⟨h1,h2⟩;exact⟨h1,h2.symm⟩
theorem adD (w:World):Calls Tryz.prog 171 #[.int .i64 16] w fun e w'=>e= .returned (.bool true)∧w=w':=by
 have hb:bits .and .i64 16 15=0:=by kernel_rfl
 go_enter Tryz.func171,Tryz.ntmps171;go_wp2_with fail;go_ret;exact⟨rfl,rfl⟩
def Zs:Array Value:=(List.replicate 65 (.int .u8 0)).toArray
theorem Zt (w:World) (uY:Value):(Instr.alloc 189 true uY).run Tryz.prog w= .ok (.pointer (some ⟨w.heap.size,0,none⟩)) (w.alloc (.cells Zs 189)):=by kernel_rfl
def tQ (d:List UInt8):Array Value:=(List.replicate (65 - d.length) (Value.int .u8 0)++d.map iP).toArray
theorem SN (d:List UInt8) (c:UInt8) (i:Nat) (h:i+d.length=64):(tQ d).setIfInBounds i (.int .u8 (c.toNat:Int))=tQ (c::d):=by
 unfold tQ;rw[List.setIfInBounds_toArray];congr 1;have h1:65 - d.length=i+1:=by omega
 have h2:65 - (c::d).length=i:=by rw[List.length_cons];omega
 rw[h1,h2,List.set_append_left _ _ (by simp),List.replicate_succ'];rw[List.set_append_right _ _ (by simp)];simp[iP]
theorem F1 (d:List UInt8) (h:d.length≤65):(tQ d).size=65:=by simp[tQ];omega
theorem Ws (d:List UInt8) (h:d.length≤65) (j:Nat) (hj:j < d.length):(tQ d)[65 - d.length+j]? =some (iP d[j]):=by unfold tQ;rw[List.getElem?_toArray,List.getElem?_append_right (by simp)];simp[hj]
theorem akT (n:Nat) (hn:n < 65536):bits .and .u64 (n:Int) 15=((n % 16:Nat):Int):=by
 have agW:(BitVec.ofInt 64 15).toNat=2 ^ 4 - 1:=by decide
 have key:(BitVec.ofInt 64 n&&&BitVec.ofInt 64 15).toNat=n % 2 ^ 4:=by rw[BitVec.toNat_and,BitVec.toNat_ofInt,agW,Nat.and_two_pow_sub_one_eq_mod];omega
 show IntKind.u64.wrap ((BitVec.ofInt 64 n&&&BitVec.ofInt 64 15).toNat:Nat)=_;rw[key,IntKind.wrap_u64];omega
def I8:ByteArray:=⟨#[48,49,50,51,52,53,54,55,56,57,97,98,99,100,101,102,103,104,105,106,107,108,109,110,111,112,113,114,115,116,117,118,119,120,121,122]⟩
theorem Zu:∀i:Fin 16,I8[i.val]'(Nat.lt_trans i.isLt (by decide))=gL.getD i.val 0:=by decide+kernel
theorem Zv {n:Nat} (h:n < 16):pY n=[gL.getD n 0]:=by unfold pY;rw[if_pos h]
theorem Wt {n:Nat} (h:16≤n) (h2:n < 65536):pY n=pY (n / 16)++[gL.getD (n % 16) 0]:=by
 unfold pY;rw[if_neg (by omega)];by_cases h3:n < 256;·rw[if_pos h3,if_pos (by omega)];rfl
 ·rw[if_neg h3];by_cases h4:n < 4096
  ·rw[if_pos h4,if_neg (by omega),if_pos (by omega)];have:n / 16 / 16=n / 256:=by omega
   rw[this];rfl
  ·rw[if_neg h4,if_neg (by omega),if_neg (by omega),if_pos (by omega)];have e1:n / 16 / 256=n / 4096:=by omega
   have e2:n / 16 / 16 % 16=n / 256 % 16:=by omega
   rw[e1,e2];rfl
theorem Bv (n:Nat):1≤(pY n).length∧(pY n).length≤4:=by
 unfold pY;split;·simp
 split;·simp
 split;·simp
 ·simp
theorem Zw {w:World} {g k:Nat} {D:List UInt8} (h:Row w g 189 (tQ D)) (hk:k+D.length=65):∀j u,(D.map iP)[j]? =some u→w.cell? ((⟨g,k,none⟩:Addr).add j)=some u:=by intro j u hu;rw[List.getElem?_map] at hu;obtain⟨c,hc,rfl⟩:=Option.map_eq_some_iff.1 hu;obtain⟨hj,rfl⟩:=List.getElem?_eq_some_iff.1 hc;rw[Addr.add_mid];have:=Ws D (by omega) j hj;rw[show 65 - D.length=k by omega] at this;exact h.cell this
theorem Wu {D:List UInt8}:∀u∈D.map iP,u.oneCell'=true:=by intro u hu;obtain⟨c,_,rfl⟩:=List.mem_map.1 hu;rfl
theorem Zx (g k n:Nat) (h:k+n=65) (hn:0 < n) (W:World):(Instr.sliceAt 189 (.pointer (some ⟨g,0,none⟩)) (some (.int .i64 (k:Int))) none none).run Tryz.prog W= .ok (.slice (some ⟨g,k,none⟩) n n) W:=by
 have hl:Tryz.prog.arrayLen 189=65:=by kernel_rfl
 have hu:Tryz.prog.underlying 189=some (.array (Tryz.prog.arrayLen 189) (Tryz.prog.elem 189)):=by kernel_rfl
 have hs:(sizeOf (Tryz.prog.elem 189)).run Tryz.prog W= .ok 1 W:=by kernel_rfl
 rw[run_sliceAt_array_l W 189 ⟨g,0,none⟩ hu .i64 (k:Int) (by omega) (by rw[hl];omega),hs,hl];have e1:¬(65=(k:Int).toNat):=by omega
 have e2:65 - (k:Int).toNat=n:=by omega
 have e3:(⟨g,0,none⟩:Addr).add (((k:Int).toNat)*1)=⟨g,k,none⟩:=by rw[CH];simp
 simp only[Result.andThen,slicedAt,if_neg e1,e2,e3]
theorem Fb (v:Value) (l:List UInt8) (n:Nat) (w:World) (base:Nat) (hW:Laid w) (hv:fC w base v l) (hb:base≤w.heap.size) (hl:l.length≤1000000000) (hn:n < 65536):
 Calls Tryz.prog 131 #[v,.int .u64 (n:Int),.int .i64 16,.bool false,.bool true] w fun e w'=>∃v',e= .returned (.tuple #[v',.string ⟨#[]⟩])∧fC w' base v' (l++pY n)∧Below base w w':=by
 have HW:=hid hW;have HV:=hid hv;have vO:Zs=tQ []:=rfl;obtain⟨A,c,R2⟩:=hv.len;subst R2;clear hW hv;go_enter Tryz.func131,Tryz.ntmps131;go_wp2_with (refine eX rfl (Zt _) ?_;intro g w1 jL hA);obtain⟨hg,eN,rX⟩:=hA.out;have HB:=hid eN;have HG:Hid (w.heap.size≤g):=hid (by omega);rw[vO] at jL;clear hg eN rX hA vO;refine(adD _).mono ?_;rintro e w' ⟨rfl,rfl⟩;go_wp2_with fail;refine(Zr _ (HW.out.step HB.out)).mono ?_;rintro e w' ⟨rfl,rfl⟩;go_wp2_with fail;go_loopw [1,13] (fun x y wr=>∃(u:Nat) (d:List UInt8) (k:Nat),x= .int .u64 (u:Int)∧y= .int .i64 (k:Int)∧k+d.length=65∧61 < k∧u < 65536∧Row wr g 189 (tQ d)∧Hid (pY n=pY u++d)∧Hid (Below w.heap.size w wr)) (fun x _ _=>(intOf x).toNat);case atStart=>exact⟨n,[],65,rfl,rfl,rfl,by omega,hn,jL,hid (by simp),HB⟩
 case round=>
  clear jL HB;obtain⟨u,d,k,rfl,rfl,hkd,aqD,hu,jL,hF,HB⟩:=hrel;have adE:∀(i:Nat) (h:i < 16) (hk:i < I8.size),I8[i]'hk=gL.getD i 0:=fun i h _=>Zu ⟨i,h⟩;obtain⟨k1,rfl⟩:∃k1,k=k1+1:=⟨k - 1,by omega⟩;have Ib:IntKind.i64.wrap (((k1+1:Nat):Int) - 1)=(k1:Int):=by rw[IntWalk.i64_in _ (by omega)];omega
  have adF:=fun c=>SN d c k1 (by omega);by_cases yU:16≤u
  ·have HX:Hid (pY n=pY (u / 16)++(gL.getD (u % 16) 0::d)):=hid (by rw[hF.out,Wt yU hu];simp);have hlen:62 < k1+1:=by have h1:=congrArg List.length HX.out;have h2:=(Bv n).2;have h3:=(Bv (u / 16)).1;simp at h1;omega
   have ha:=akT u hu;have hm:u % 16 < 16:=Nat.mod_lt _ (by decide);have rL:u % 16 < I8.size:=Nat.lt_trans hm (by decide);have hd:=adE (u % 16) hm rL;have UD:=adF (gL.getD (u % 16) 0);obtain⟨q,hq⟩:∃q,q=u / 16:=⟨_,rfl⟩;have hdiv:((u:Int) / 16)=(q:Int):=by rw[hq];omega
   have hqu:q < 65536∧q < u:=by omega
   rw[←hq] at HX;clear hq adE adF hF;generalize gL.getD (u % 16) 0=XL at*;generalize u % 16=m at*;unfold I8 at hd rL;have anR:decide ((16:Int)≤(u:Int))=true:=by simp;omega
   go_wp2_with (refine dS rfl _ _ _ rfl _ _ _ rfl rfl rfl jL (by rw[F1 _ (by omega)];simp;omega) (by kernel_rfl) ?_;intro w2 aH aB);have cK:=hid (HB.out.trans (aB.1.mono HG.out));have rF:Row w2 g 189 ((tQ d).setIfInBounds k1 (.int .u8 (XL.toNat:Int))):=aH;rw[UD] at rF;clear aH aB;go_roundw;case rel=>exact⟨q,XL::d,k1,rfl,rfl,by simp;omega,by omega,hqu.1,rF,HX,cK⟩
   case measure=>simp[intOf];omega
  ·have ahQ:u < 16:=by omega
   have HX:Hid (pY n=gL.getD u 0::d):=hid (by rw[hF.out,Zv ahQ];rfl);have rL:u < I8.size:=Nat.lt_trans ahQ (by decide);have hd:=adE u ahQ rL;have UD:=adF (gL.getD u 0);clear adE adF hF;generalize gL.getD u 0=XL at*;unfold I8 at hd rL;have anR:decide ((16:Int)≤(u:Int))=false:=by simp;omega
   have CL:(XL::d).length≤4:=by rw[←HX.out];exact(Bv n).2
   have mE:k1+(XL::d).length=65:=by simp;omega
   obtain⟨D,hD⟩:∃D,D=XL::d:=⟨_,rfl⟩;rw[←hD] at UD HX CL mE;clear hD;have tF:=Zx g k1 D.length mE (by omega);obtain⟨i0,hi,vO,rX,qL⟩:=info_parts zJ;go_wp2_with (first|(refine dS rfl _ _ _ rfl _ _ _ rfl rfl rfl jL (by rw[F1 _ (by omega)];simp;omega) (by kernel_rfl) ?_;intro w2 aH aB;have rF:=aH;clear aH;replace rF:Row w2 g 189 ((tQ d).setIfInBounds k1 (.int .u8 (XL.toNat:Int))):=rF;rw[UD] at rF;have cK:=hid (HB.out.trans (aB.1.mono HG.out));clear aB)|(at_builtin;refine wpList_append_own w2 rfl _ _ 25 rfl base 5 i0 (.int .u8 0) 1 1 Tryz.underlying25 hi vO rX qL rfl (by decide) _ l.length (l.map iP) rfl (HV.out.below cK.out) ⟨g,k1,none⟩ D.length D.length (D.map iP) rfl (by simp) (Zw rF mE) Wu (by unfold maxLen;omega) (by omega) (by have:=cK.out.size;omega) ?_;intro v' w5 h1 h2 h3));have pG:fC w5 base v' (l++D):=by unfold fC;rw[List.length_append,List.map_append];exact h1
   have anS:=hid pG;have iJ:=hid ((cK.out.mono hb).grown h2 (by have:=cK.out.size;omega) (fun k hk=>(World.ownsRow.lt HV.out k hk).1));clear h1 h2 h3 pG;go_wp2_with fail;go_ret2;exact⟨v',rfl,by rw[HX.out];exact anS.out,iJ.out⟩
theorem lW (v:Value) (l:List UInt8) (n:Nat) (w:World) (base:Nat) (hW:Laid w) (hv:fC w base v l) (hb:base≤w.heap.size) (hl:l.length≤1000000000) (hn:n < 65536):
 Calls Tryz.prog 87 #[v,.int .u64 (n:Int),.int .i64 16] w fun e w'=>∃v',e= .returned v'∧fC w' base v' (l++pY n)∧Below base w w':=by
 have H:=hid (Fb v l n w base hW hv hb hl hn);clear hW hv;have H2:Hid (Calls Tryz.prog 127 #[v,.int .u64 (n:Int),.int .i64 16] w fun e w'=>∃v',e= .returned v'∧fC w' base v' (l++pY n)∧Below base w w'):=by refine hid ?_;go_enter Tryz.func127,Tryz.ntmps127;go_wp2_with fail;refine H.out.mono ?_;rintro e w' ⟨v',rfl,h1,h2⟩;have H1:=hid h1;clear h1;go_wp2_with fail;go_ret;exact⟨_,rfl,H1.out,h2⟩
 go_enter Tryz.func87,Tryz.ntmps87;go_wp2_with fail;refine H2.out.mono ?_;rintro e w' ⟨v',rfl,h1,h2⟩;have H1:=hid h1;clear h1;go_wp2_with fail;go_ret;exact⟨_,rfl,H1.out,h2⟩
theorem Zy (l:List Nat) (h8:l.length=8):∀n i b e,b≤e→e≤8→(vU l n i b e).1≤(vU l n i b e).2∧(vU l n i b e).2≤8:=by
 intro n;induction n with
 |zero=>intro i b e h1 h2;exact⟨h1,h2⟩
 |succ n ih=>
  intro i b e h1 h2;rw[vU];have hz:=I6 l i;simp only;split;·exact⟨h1,h2⟩
  split;·exact ih _ _ _ (by omega) (by omega)
  ·exact ih _ _ _ h1 h2
theorem adG (l:List Nat) (h8:l.length=8):(Gn l).1≤(Gn l).2∧(Gn l).2≤8:=Zy l h8 _ _ _ _ (Nat.le_refl _) (by omega)
theorem Py (s:ByteArray):Lib.strCells s=s.data.toList.map iP:=by rfl
theorem CU {ops:Array Oper} {rest:List Oper} {o:Oper} {a:Act} {Q:Exit→Act→World→Prop} (w:World) (base:Nat) (v:Value) (l s:List UInt8) (S:ByteArray) (hS:S=aA s)
 (tK:o.guard=none) (x y:Operand) (ho:o.op= .call {callee:= .builtin .append,args:= #[x,y],argTypes:= #[25,9]})
 (hs:a.eval x=v) (bE:fC w base v l) (hx:a.eval y= .string S) (hlen:l.length≤1000000000) (Zz:s.length≤1000000000) (kX:base≤w.heap.size)
 (h:∀v' w',fC w' base v' (l++s)→Below base w w'→wpList Tryz.prog ops Q rest (a.put o.dst v') w'):wpList Tryz.prog ops Q (o::rest) a w:=by
 subst hS;have iW:=aD s;obtain⟨i0,hi,vO,rX,qL⟩:=info_parts zJ;refine Lib.wpList_append_own_string w tK x y 25 9 ho base 5 i0 Tryz.underlying25 Tryz.underlying9 hi vO rX qL v l.length (l.map iP) hs bE (aA s) hx (by unfold maxLen;omega) (by omega) kX fun v' w' h1 h2 _=>?_;refine h v' w' ?_ ((Below.refl _ _).grown h2 kX (fun k hk=>(World.ownsRow.lt bE k hk).1));unfold fC;rw[List.length_append,List.map_append];rw[Py,aC,iW] at h1;exact h1
theorem MW (a:List Nat) (b e n i:Nat) (h:i < 8):iC a b e (n+1) i=if i=b∧b < e then[58,58]++iC a b e n e else(if 0 < i∧(i≠e∨e=b) then[58] else[])++(pY (a.getD i 0)++iC a b e n (i+1)):=by rw[iC,if_neg (by omega)]
theorem Pz (a:List Nat) (b e n i:Nat) (h:8≤i):iC a b e n i=[]:=by
 cases n with
 |zero=>rfl
 |succ n=>rw[iC,if_pos h]
theorem Wv (l:List Nat) (h8:l.length=8) (bC:∀x∈l,x < 65536) (w:World) (hW:Laid w):Calls Tryz.prog 51 #[Pv l] w fun e w'=>e= .returned (.string (aA (nZ l)))∧Below w.heap.size w w':=by
 have HL:=hid (fun W=>I7 l h8 W);have HS:Hid (nZ l=iC l (Gn l).1 (Gn l).2 9 0):=hid rfl;have hle:=adG l h8;generalize Gn l=z at*;obtain⟨b,e⟩:=z;simp only at HL HS hle;obtain⟨hbe,JT⟩:=hle;have HW:=hid hW;have HLT:=hid bC;have H30:Hid ((Tryz.prog.info? 30).map (·.size)=some (dW l).size):=hid (by rw[show(dW l).size=8 by simp[dW,h8]];kernel_rfl);clear hW bC;go_enter Tryz.func51,Tryz.ntmps51;go_wp2_with (first|(refine jH (arr:=(dW l)) rfl rfl ?_;intro g w1 jL hA)|(refine qS rfl 30 _ rfl _ rfl jL _ Tryz.underlying30 rfl H30.out ?_));obtain⟨hg,eN,rX⟩:=hA.out;have Cn:=hid eN;have HG:Hid (w.heap.size≤w1.heap.size):=hid (by omega);clear hg eN rX hA;refine(HL.out _).mono ?_;rintro e9 w2 ⟨rfl,dE⟩;have cK:=hid dE;clear dE;go_wp2_with fail;go_loopw [5,6] (fun v y wr=>∃(out:List UInt8) (i n:Nat),fC wr w1.heap.size v out∧y= .int .i64 (i:Int)∧i≤8∧out.length≤6*i∧Hid (9≤n+i)∧Hid (nZ l=out++iC l b e n i)∧Hid (Below w1.heap.size w1 wr)) (fun _ y _=>8 - (intOf y).toNat);case atStart=>exact⟨[],0,9,fC.nil _ _,rfl,by omega,by simp,hid (by omega),hid HS.out,cK⟩
 case round=>
  clear cK;obtain⟨out,i,n,bE,rfl,hi8,hol,hn,hF,HB⟩:=hrel;have iW:=HB.out.size;by_cases bC:i < 8
  ·obtain⟨m,rfl⟩:∃m,n=m+1:=⟨n - 1,by have:=hn.out;omega⟩;have Um:i < l.length:=by omega
   have hx:=HLT.out (l[i]'Um) (List.getElem_mem Um);have aW:=(jL.below HB.out).cell (Fa Um);have tK:l.getD i 0=l[i]'Um:=by simp[Um]
   have aT:=hF.out;rw[MW l b e m i bC,tK] at aT;have hmi:9≤m+(i+1):=by have:=hn.out;omega
   have HMI:=hid hmi;have uG:=hid (jL.below HB.out);have HAT:=hid (Fa Um);generalize l[i]'Um=x at*;have Yz:=(Bv x).2;clear tK hF hmi hn;have dO:(i=b∧b < e)∨(i≠b∧i=0)∨(i≠b∧0 < i∧i≠e)∨(i≠b∧0 < i∧i=e∧e≠b)∨(i=b∧b=e∧i=0)∨(i=b∧b=e∧0 < i):=by omega
   have hd8:decide ((i:Int) < 8)=true:=by simp;omega
   rcases dO with⟨c1,c2⟩|⟨c1,c2⟩|⟨c1,c2,c3⟩|⟨c1,c2,c3,c4⟩|⟨rfl,rfl,c3⟩|⟨rfl,rfl,c3⟩
   ·rw[if_pos ⟨c1,c2⟩] at aT;have HF:=hid aT;have t1:((i:Int)==(b:Int))=true:=by simp;omega
    have t2:decide (b < e)=true:=by simp;omega
    have t3:IntKind.i64.wrap ((e:Int) - 1)+1=(e:Int):=by rw[IntWalk.i64_in _ (by omega)];omega
    obtain⟨e1,aB⟩:∃e1,e=e1+1:=⟨e - 1,by omega⟩;have t4:IntKind.i64.wrap ((e:Int) - 1)=(e1:Int):=by rw[IntWalk.i64_in _ (by omega)];omega
    have HE:=hid aB;have he7:e1≤7:=by omega
    have HIE:Hid (i < e):=hid (by omega);have anT:Hid (out.length+2≤6*e):=hid (by omega);clear aW aT t3 aB c1 c2;go_wp2_with (at_builtin;refine CU wr w1.heap.size _ out [58,58] _ rfl rfl _ _ rfl rfl bE rfl (by omega) (by simp) iW ?_;intro v1 w5 dJ aM);go_roundw;case rel=>exact⟨out++[58,58],e,m,dJ,by have:=HE.out;congr 1;omega,JT,by rw[List.length_append];exact anT.out,hid (by have h8:=HMI.out;have h9:=HIE.out;omega),hid (by rw[HF.out];simp),hid (HB.out.trans aM)⟩
    case measure=>have h8:=HE.out;have h9:=HIE.out;simp[intOf];omega
   ·rw[if_neg (by omega),if_neg (by omega)] at aT;have t1:((i:Int)==(b:Int))=false:=by simp;omega
    have t2:decide (0 < i)=false:=by simp;omega
    clear c1 c2;have HF:Hid (nZ l=out++pY x++iC l b e m (i+1)):=hid (by rw[aT];simp);clear aT;have iJ:=HB;go_wp2_with fail;have adH:out.length≤6*i+1:=by omega
    generalize out=DR at*;refine(lW _ DR x _ w1.heap.size ((HW.out.step Cn.out).step iJ.out) bE iW (by omega) hx).mono ?_;rintro e9 w6 ⟨v6,rfl,DS,fH⟩;have Eg:=hid (iJ.out.trans fH);clear fH;go_wp2_with fail;go_roundw;case rel=>exact⟨DR++pY x,i+1,m,DS,by go_num,by omega,by simp;omega,HMI,HF,Eg⟩
    case measure=>simp[intOf];omega
   ·rw[if_neg (by omega),if_pos (by omega)] at aT;have t1:((i:Int)==(b:Int))=false:=by simp;omega
    have t2:decide (0 < i)=true:=by simp;omega
    have t3:((i:Int)!=(e:Int))=true:=by simp;omega
    have t4:((i:Int)==(e:Int))=false:=by simp;omega
    clear c1 c2 c3;have HF:Hid (nZ l=(out++[58])++pY x++iC l b e m (i+1)):=hid (by rw[aT];simp);clear aT aW;go_wp2_with (at_builtin;refine cJ wr w1.heap.size _ out 58 rfl rfl _ _ rfl rfl bE rfl (by omega) iW ?_;intro v1 w5 dJ aM;have iJ:=hid (HB.out.trans aM);have aW:=(jL.below iJ.out).cell HAT.out);have adH:(out++[58]).length≤6*i+1:=by simp;omega
    generalize out++[58]=DR at*;have hz5:w1.heap.size≤w5.heap.size:=iJ.out.size;refine(lW v1 DR x w5 w1.heap.size ((HW.out.step Cn.out).step iJ.out) dJ hz5 (by omega) hx).mono ?_;rintro e9 w6 ⟨v6,rfl,DS,fH⟩;have Eg:=hid (iJ.out.trans fH);clear fH;go_wp2_with fail;go_roundw;case rel=>exact⟨DR++pY x,i+1,m,DS,by go_num,by omega,by simp;omega,HMI,HF,Eg⟩
    case measure=>simp[intOf];omega
   ·rw[if_neg (by omega),if_neg (by omega)] at aT;have t1:((i:Int)==(b:Int))=false:=by simp;omega
    have t2:decide (0 < i)=true:=by simp;omega
    have t3:((i:Int)!=(e:Int))=false:=by simp;omega
    have t4:((e:Int)==(b:Int))=false:=by simp;omega
    have t5:((i:Int)==(e:Int))=true:=by simp;omega
    clear c1 c2 c3 c4;have HF:Hid (nZ l=out++pY x++iC l b e m (i+1)):=hid (by rw[aT];simp);clear aT;have iJ:=HB;go_wp2_with fail;have adH:out.length≤6*i+1:=by omega
    generalize out=DR at*;refine(lW _ DR x _ w1.heap.size ((HW.out.step Cn.out).step iJ.out) bE iW (by omega) hx).mono ?_;rintro e9 w6 ⟨v6,rfl,DS,fH⟩;have Eg:=hid (iJ.out.trans fH);clear fH;go_wp2_with fail;go_roundw;case rel=>exact⟨DR++pY x,i+1,m,DS,by go_num,by omega,by simp;omega,HMI,HF,Eg⟩
    case measure=>simp[intOf];omega
   ·rw[if_neg (by omega),if_neg (by omega)] at aT;have t1:decide (0 < i)=false:=by simp;omega
    clear c3;have HF:Hid (nZ l=out++pY x++iC l i i m (i+1)):=hid (by rw[aT];simp);clear aT;have iJ:=HB;go_wp2_with fail;have adH:out.length≤6*i+1:=by omega
    generalize out=DR at*;refine(lW _ DR x _ w1.heap.size ((HW.out.step Cn.out).step iJ.out) bE iW (by omega) hx).mono ?_;rintro e9 w6 ⟨v6,rfl,DS,fH⟩;have Eg:=hid (iJ.out.trans fH);clear fH;go_wp2_with fail;go_roundw;case rel=>exact⟨DR++pY x,i+1,m,DS,by go_num,by omega,by simp;omega,HMI,HF,Eg⟩
    case measure=>simp[intOf];omega
   ·rw[if_neg (by omega),if_pos (by omega)] at aT;have t1:decide (0 < i)=true:=by simp;omega
    clear c3;have HF:Hid (nZ l=(out++[58])++pY x++iC l i i m (i+1)):=hid (by rw[aT];simp);clear aT aW;go_wp2_with (at_builtin;refine cJ wr w1.heap.size _ out 58 rfl rfl _ _ rfl rfl bE rfl (by omega) iW ?_;intro v1 w5 dJ aM;have iJ:=hid (HB.out.trans aM);have aW:=(jL.below iJ.out).cell HAT.out);have adH:(out++[58]).length≤6*i+1:=by simp;omega
    generalize out++[58]=DR at*;have hz5:w1.heap.size≤w5.heap.size:=iJ.out.size;refine(lW v1 DR x w5 w1.heap.size ((HW.out.step Cn.out).step iJ.out) dJ hz5 (by omega) hx).mono ?_;rintro e9 w6 ⟨v6,rfl,DS,fH⟩;have Eg:=hid (iJ.out.trans fH);clear fH;go_wp2_with fail;go_roundw;case rel=>exact⟨DR++pY x,i+1,m,DS,by go_num,by omega,by simp;omega,HMI,HF,Eg⟩
    case measure=>simp[intOf];omega
  ·have HF:Hid (nZ l=out):=hid (by rw[hF.out,Pz _ _ _ _ _ (by omega)];simp);have G3:=oE bE;have hd8:decide ((i:Int) < 8)=false:=by simp;omega
   clear hF;go_wp2_with fail;go_ret;exact⟨by rw[HF.out];rfl,Cn.out.trans (HB.out.mono HG.out)⟩
end Go.Proofs.YtmgmclkplepapaaGreatDoor
