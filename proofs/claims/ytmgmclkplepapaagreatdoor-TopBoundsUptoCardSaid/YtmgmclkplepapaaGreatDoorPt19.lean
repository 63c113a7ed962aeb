/- Part of the proof of TopBoundsUptoCardSaid. Conditions: none beyond the statement. -/
import Derived.Test.YtmgmclkplepapaaGreatDoorPt1
import Derived.Test.YtmgmclkplepapaaGreatDoorPt18
set_option linter.all false
set_option maxRecDepth 100000
set_option maxHeartbeats 64000000
namespace Go.Proofs.YtmgmclkplepapaaGreatDoor
open Go.RowKit
def Sd (h l:UInt8):UInt8:=UInt8.ofNat ((digit h 16*16+digit l 16).toNat)
def Ar (h l:UInt8):Bool:=decide (0≤digit h 16)&&decide (0≤digit l 16)
def nM:List UInt8→List UInt8
 |c::h::l::r=>if c=37∧Ar h l=true then Sd h l::nM r else c::nM (h::l::r)
 |c::r=>c::nM r
 |[]=>[]
theorem Bh:∀l:List UInt8,(nM l).length≤l.length
 |[]=>by simp[nM]
 |[a]=>by simp[nM]
 |[a,b]=>by simp[nM]
 |c::h::l::r=>by
  rw[nM];split;·have:=Bh r;simp;omega
  ·have:=Bh (h::l::r);simp at this⊢;omega
theorem YR {l:List UInt8} {k:Nat} (h:k+2 < l.length) (hc:l[k]=37) (hx:Ar l[k+1] l[k+2]=true):nM (l.drop k)=Sd l[k+1] l[k+2]::nM (l.drop (k+3)):=by rw[List.drop_eq_getElem_cons (by omega),List.drop_eq_getElem_cons (by omega),List.drop_eq_getElem_cons (by omega),nM,if_pos ⟨hc,hx⟩]
theorem VY {l:List UInt8} {k:Nat} (h:k < l.length) (hn:∀h2:k+2 < l.length,¬(l[k]=37∧Ar l[k+1] l[k+2]=true)):nM (l.drop k)=l[k]::nM (l.drop (k+1)):=by
 rw[List.drop_eq_getElem_cons h];by_cases h2:k+2 < l.length;·rw[List.drop_eq_getElem_cons (show k+1 < l.length by omega),List.drop_eq_getElem_cons (show k+1+1 < l.length by omega),nM,if_neg (hn h2)]
 ·cases hd:l.drop (k+1) with
  |nil=>rfl
  |cons a r=>
   cases r with
   |nil=>rfl
   |cons b r=>have:=congrArg List.length hd;simp at this;omega
theorem YS {h l:UInt8} (hx:Ar h l=true):IntKind.u8.wrap (digit h 16*16+digit l 16)=((Sd h l).toNat:Int):=by have b1:=oD h 16 (by omega);have b2:=oD l 16 (by omega);unfold Ar at hx;simp at hx;rw[IntWalk.u8_in _ (by omega)];unfold Sd;rw[UInt8.toNat_ofNat_of_lt' (by show _ < 256;omega)];omega
theorem VZ {h l:UInt8} (hx:Ar h l=true):digit h 16*16+digit l 16=((Sd h l).toNat:Int):=by have b1:=oD h 16 (by omega);have b2:=oD l 16 (by omega);rw[←YS hx];unfold Ar at hx;simp at hx;rw[IntWalk.u8_in _ (by omega)]
theorem YT:(Tryz.prog.info? 5).map (fun i=>(i.zero,i.size,i.bytes))=some (some (.int .u8 0),1,1):=by kernel_rfl
theorem pC {ops:Array Oper} {rest:List Oper} {o:Oper} {a:Act} {Q:Exit→Act→World→Prop} (w:World) (base:Nat) (v:Value) (l:List UInt8) (c:UInt8) {n:Int} (hn:n=(c.toNat:Int))
 (tK:o.guard=none) (s x:Operand) (ho:o.op= .call {callee:= .builtin .append,args:= #[s,x],argTypes:= #[25,25]})
 (hs:a.eval s=v) (bE:fC w base v l) (hx:a.eval x= .slice (some ⟨w.heap.size,0,none⟩) 1 1) (hlen:l.length≤3900000000) (kX:base≤w.heap.size)
 (h:∀v' w',fC w' base v' (l++[c])→Below base w w'→wpList Tryz.prog ops Q rest (a.put o.dst v') w'):wpList Tryz.prog ops Q (o::rest) a (w.alloc (.cells #[.int .u8 n] 5)).drew:=by
 subst hn;refine B7 _ base v l [c] tK s x ho hs (bE.made _) w.heap.size 1 hx (fun j hj=>RG w [c] 5 j hj) (by simp;omega) (by simp;omega) fun v' w' h1 h2=>h v' w' h1 ?_;exact(Below.drew (Below.alloc (Below.refl base w) kX _)).trans h2
def tO (l:List UInt8) (k:Nat) (x:List UInt8):Prop:=x++nM (l.drop k)=nM l∧x.length≤k
theorem tO.zero (l:List UInt8):tO l 0 []:=⟨by simp,by simp⟩
theorem tO.hit {l x:List UInt8} {k:Nat} (h:tO l k x) (h2:k+2 < l.length) (hc:l[k]=37) (hx:Ar l[k+1] l[k+2]=true):tO l (k+3) (x++[Sd l[k+1] l[k+2]]):=by refine⟨?_,by have:=h.2;simp;omega⟩;rw[←h.1,YR h2 hc hx];simp
theorem tO.agS {l x:List UInt8} {k:Nat} (h:tO l k x) (hk:k < l.length) (hn:∀h2:k+2 < l.length,¬(l[k]=37∧Ar l[k+1] l[k+2]=true)):tO l (k+1) (x++[l[k]]):=by refine⟨?_,by have:=h.2;simp;omega⟩;rw[←h.1,VY hk hn];simp
theorem tO.all {l x:List UInt8} {k:Nat} (h:tO l k x) (hk:l.length≤k):x=nM l:=by have:=h.1;rw[List.drop_eq_nil_of_le hk] at this;simpa[nM] using this
theorem MB (s:ByteArray) (w:World) (hs:s.size≤1000000000):
 Calls Tryz.prog 211 #[.string s] w fun e w'=>∃v,e= .returned v∧fC w' w.heap.size v (nM s.data.toList)∧Below w.heap.size w w':=by
 have hlen:Hid (s.data.toList.length=s.size):=hid (by simp);have Az:∀j (h:j < s.size),s.data.toList[j]'(by simpa using h)=s[j]:=fun j h=>rfl;have HG:=hid Az;clear Az;obtain⟨i0,hi,vO,rX,qL⟩:=info_parts YT;go_enter Tryz.func211,Tryz.ntmps211;go_wp2_with (at_make;refine wpList_make_own w rfl _ _ 25 rfl w.heap.size 5 i0 (.int .u8 0) 1 Tryz.underlying25 hi vO rX .i64 .i64 _ s.size rfl rfl rfl (by rw[qL];omega) (by unfold maxLen;omega) (Nat.le_refl _) ?_;intro w1 dJ Ix);have eN:Below w.heap.size w w1:=(Below.refl _ _).grown Ix (Nat.le_refl _) (fun k hk=>by cases hk);have Iy:fC w1 w.heap.size (.slice (some ⟨w.heap.size,0,none⟩) 0 s.size) []:=dJ;clear dJ Ix hi vO rX qL;go_loopw [3,4] (fun v i wr=>∃(k:Nat) (x:List UInt8),k≤s.size∧i= .int .i64 k∧fC wr w.heap.size v x∧tO s.data.toList k x∧Below w.heap.size w wr) (fun _ i _=>s.size - (intOf i).toNat);case atStart=>exact⟨0,[],Nat.zero_le _,rfl,Iy,tO.zero _,eN⟩
 case round=>
  obtain⟨k,x,hk,rfl,bE,hrel,dB⟩:=hrel;have HR:=hid hrel;clear Iy eN;have Yz:=hrel.2;clear hrel;have rC:=dB.size;by_cases bC:k < s.size
  ·have uX:(s[k]).toNat < 256:=s[k].toNat_lt;by_cases hc:s[k]=37
   ·have HC:=hid hc;have hce:(((s[k]).toNat:Int)==37)=true:=by rw[hc];rfl
    clear hc;by_cases h2:k+2 < s.size
    ·have y1:(s[k+1]).toNat < 256:=s[k+1].toNat_lt;have y2:(s[k+2]).toNat < 256:=s[k+2].toNat_lt;have e1:IntKind.i64.wrap ((k:Int)+1)=(k:Int)+1:=IntWalk.i64_in _ (by omega);have e2:IntKind.i64.wrap ((k:Int)+2)=(k:Int)+2:=IntWalk.i64_in _ (by omega);have q1:0≤(k:Int)+1:=by omega
     have q2:(k:Int)+1 < (s.size:Int):=by omega
     have q3:0≤(k:Int)+2:=by omega
     have q4:(k:Int)+2 < (s.size:Int):=by omega
     have t1:((k:Int)+1).toNat=k+1:=by omega
     have t2:((k:Int)+2).toNat=k+2:=by omega
     go_wp2_with fail;refine Rm (fun W=>W=wr.drew) (by kernel_rfl) (by kernel_rfl) rfl ?_;simp only[];repeat (first
      |(apply lR.afC; ·rfl
        ·intro W hW K hK;replace hW:W=wr.drew:=hW;subst hW;go_simp;exact hK _ rfl
        simp only[pq])
      |(apply lR.afC; ·rfl
        ·intro W hW K hK;replace hW:W=wr.drew:=hW;subst hW;go_simp;go_at_call 76;refine(kW _ 16 (by decide) (by decide) _).mono ?_;rintro e w4 ⟨rfl,rfl⟩;exact hK _ rfl
        simp only[pq]))
     refine lR.nil ?_;rintro w6 rfl;have Dr:k+1≤s.size:=by clear e1 e2 q1 q2 q3 q4 t1 t2;omega
     have XJ:k+3≤s.size:=by clear e1 e2 q1 q2 q3 q4 t1 t2;omega
     have Se:x.length≤3900000000:=by clear e1 e2 q1 q2 q3 q4 t1 t2;omega
     have RY:k+2 < s.data.toList.length:=by rw[hlen.out];exact h2
     cases hx:Ar s[k+1] s[k+2] with
     |true=>
      have HV:=hid (VZ hx);have HN:=hid (HR.out.hit RY HC.out hx);have b1:=oD s[k+1] 16 (by decide);have b2:=oD s[k+2] 16 (by decide);have Ol:=hx;unfold Ar at Ol;simp only[Bool.and_eq_true,decide_eq_true_eq] at Ol;obtain⟨g1,g2⟩:=Ol;obtain⟨-,b1⟩:=b1;obtain⟨-,b2⟩:=b2;clear hx;generalize hB:Sd s[k+1] s[k+2]=hb at*;have HB:=hid hB;clear hB;generalize digit s[k+1] 16=d1 at*;generalize digit s[k+2] 16=d2 at*;go_wp2_with (at_builtin;refine pC wr w.heap.size _ _ hb HV.out rfl _ _ rfl rfl bE rfl Se rC ?_;intro v1 w1 dJ eN);go_roundw;case rel=>exact⟨k+3,_,XJ,by go_num,dJ,by rw[←HB.out];exact HN.out,dB.trans eN⟩
      case measure=>simp[intOf];omega
     |false=>
      have HN:=hid (HR.out.agS (k:=k) (by omega) (fun _ h=>by rw[show s.data.toList[k+1]=s[k+1] from rfl,show s.data.toList[k+2]=s[k+2] from rfl,hx] at h;exact Bool.noConfusion h.2));have b1:=oD s[k+1] 16 (by decide);have b2:=oD s[k+2] 16 (by decide);obtain⟨-,b1⟩:=b1;obtain⟨-,b2⟩:=b2;have Ol:=hx;unfold Ar at Ol;clear hx;by_cases g1:0≤digit s[k+1] 16
      ·have g2:digit s[k+2] 16 < 0:=by
        rcases Int.lt_or_le (digit s[k+2] 16) 0 with h|h;·exact h
        ·simp[g1,h] at Ol
       clear Ol;generalize digit s[k+1] 16=d1 at*;generalize digit s[k+2] 16=d2 at*;go_wp2_with (at_builtin;refine pC wr w.heap.size _ _ s[k] rfl rfl _ _ rfl rfl bE rfl Se rC ?_;intro v1 w1 dJ eN);go_roundw;case rel=>exact⟨k+1,_,Dr,by go_num,dJ,HN.out,dB.trans eN⟩
       case measure=>simp[intOf];omega
      ·have g1:digit s[k+1] 16 < 0:=by
        rcases Int.lt_or_le (digit s[k+1] 16) 0 with h|h;·exact h
        ·exact absurd h g1
       clear Ol;generalize digit s[k+1] 16=d1 at*;generalize digit s[k+2] 16=d2 at*;go_wp2_with (at_builtin;refine pC wr w.heap.size _ _ s[k] rfl rfl _ _ rfl rfl bE rfl Se rC ?_;intro v1 w1 dJ eN);go_roundw;case rel=>exact⟨k+1,_,Dr,by go_num,dJ,HN.out,dB.trans eN⟩
       case measure=>simp[intOf];omega
    ·have HN:=hid (HR.out.agS (k:=k) (by rw[hlen.out];exact bC) (fun h=>by rw[hlen.out] at h;exact absurd h h2));have Dr:k+1≤s.size:=by omega
     have Se:x.length≤4000000000:=by omega
     go_wp2_with (at_builtin;refine cJ wr w.heap.size _ _ s[k] rfl rfl _ _ rfl rfl bE rfl Se rC ?_;intro v1 w1 dJ eN);go_roundw;case rel=>exact⟨k+1,_,Dr,by go_num,dJ,HN.out,dB.trans eN⟩
     case measure=>simp[intOf];omega
   ·have HN:=hid (HR.out.agS (k:=k) (by rw[hlen.out];exact bC) (fun _ h=>hc h.1));have hce:(((s[k]).toNat:Int)==37)=false:=by simp only[beq_eq_false_iff_ne,ne_eq];intro h;exact hc (UInt8.toNat_inj.1 (by show s[k].toNat=37;omega))
    clear hc;have Dr:k+1≤s.size:=by omega
    have Se:x.length≤4000000000:=by omega
    go_wp2_with (at_builtin;refine cJ wr w.heap.size _ _ s[k] rfl rfl _ _ rfl rfl bE rfl Se rC ?_;intro v1 w1 dJ eN);go_roundw;case rel=>exact⟨k+1,_,Dr,by go_num,dJ,HN.out,dB.trans eN⟩
    case measure=>simp[intOf];omega
  ·obtain rfl:k=s.size:=by omega
   have pG:=HR.out.all (by rw[hlen.out];exact Nat.le_refl _);subst pG;go_wp2;go_ret;exact⟨_,rfl,bE,dB⟩
def bp:List UInt8→List UInt8×Bool
 |[]=>([],false)
 |a::r=>if a=46 then(r,true) else match r with
  |b::c::r=>if rI [a,b,c]=[37,50,101] then(r,true) else([],false)
  |_=>([],false)
theorem bpA {l:List UInt8} (h:Lib.hasPrefix l [46]=true):bp l=(l.drop 1,true):=by
 cases l with
 |nil=>simp[Lib.hasPrefix] at h
 |cons a r=>
  have:a=46:=by simp[Lib.hasPrefix] at h;exact h.symm
  simp[bp,this]
theorem bpB {l:List UInt8} (h:Lib.hasPrefix l [46]=false) (h3:3≤l.length) (hl:rI (l.take 3)=[37,50,101]):bp l=(l.drop 3,true):=by
 match l,h3 with
 |a::b::c::r,_=>
  have:¬a=46:=by intro e;subst e;simp[Lib.hasPrefix,List.isPrefixOf] at h
  have hl':rI [a,b,c]=[37,50,101]:=hl;simp[bp,this,hl']
theorem bpC {l:List UInt8} (h:Lib.hasPrefix l [46]=false) (h3:3≤l.length) (hl:¬rI (l.take 3)=[37,50,101]):bp l=([],false):=by
 match l,h3 with
 |a::b::c::r,_=>
  have:¬a=46:=by intro e;subst e;simp[Lib.hasPrefix,List.isPrefixOf] at h
  have hl':¬rI [a,b,c]=[37,50,101]:=hl;simp[bp,this,hl']
theorem bpD {l:List UInt8} (h:Lib.hasPrefix l [46]=false) (h3:¬3≤l.length):bp l=([],false):=by
 match l,h3 with
 |[],_=>rfl
 |[a],_=>
  have:¬a=46:=by intro e;subst e;simp[Lib.hasPrefix,List.isPrefixOf] at h
  simp[bp,this]
 |[a,b],_=>
  have:¬a=46:=by intro e;subst e;simp[Lib.hasPrefix,List.isPrefixOf] at h
  simp[bp,this]
 |_::_::_::_,h=>exact absurd (by simp) h
theorem DH (s:ByteArray) (w:World) (hs:s.size≤1000000000):
 Calls Tryz.prog 203 #[.string s] w fun e w'=>∃r:ByteArray,e= .returned (.tuple #[.string r,.bool (bp s.data.toList).2])∧r.data.toList=(bp s.data.toList).1∧Below w.heap.size w w':=by
 have hlen:Hid (s.data.toList.length=s.size):=hid (by simp);cases hp:Lib.hasPrefix s.data.toList (⟨#[46]⟩:ByteArray).data.toList;by_cases h3:3≤s.size;have hx3:(s.extract 0 3).data.toList=s.data.toList.take 3:=by rw[Dp];simp
 have hz3:(s.extract 0 3).size≤4000000000:=by simp;omega
 by_cases hl:rI (s.data.toList.take 3)=[37,50,101];have hq:(rI (List.take 3 s.data.toList)==[37,50,101])=true:=by simp[hl]
 have U6:=bpB hp (by rw[hlen.out];exact h3) hl;rw[U6];clear U6 hl hx3;have tg:=Tg.k 1;rotate_left;have hq:(rI (List.take 3 s.data.toList)==[37,50,101])=false:=by simpa using hl
 have U6:=bpC hp (by rw[hlen.out];exact h3) hl;rw[U6];clear U6 hl hx3;have tg:=Tg.k 2;rotate_left;have U6:=bpD hp (by rw[hlen.out];exact h3);rw[U6];clear U6;have tg:=Tg.k 3;rotate_left;have h1:1≤s.size:=by
  have JP:Lib.hasPrefix s.data.toList [46]=true:=hp;rw[←hlen.out];cases hl:s.data.toList with
  |nil=>rw[hl] at JP;simp[Lib.hasPrefix] at JP
  |cons a r=>simp
 have U6:=bpA hp;rw[U6];have HB:=hid U6;clear U6;have tg:=Tg.k 0;all_goals
  go_enter Tryz.func203,Tryz.ntmps203;go_wp2_with fail;refine(Tryz.strings_HasPrefix _ _ _).mono ?_;rintro e w2 ⟨rfl,rfl⟩;go_wp2_with fail;first
  |(first|have:Tg 1:=tg|have:Tg 2:=tg)
   refine(wC _ _ hz3).mono ?_;rintro e w3 ⟨rfl,hb⟩;go_wp2_with fail
  |skip
  go_ret2;first
  |have:Tg 0:=tg;exact⟨_,rfl,Hv s 1,Below.refl _ _⟩
  |have:Tg 3:=tg;exact⟨_,rfl,rfl,Below.refl _ _⟩
  |have:Tg 1:=tg;exact⟨_,rfl,Hv s 3,hb⟩
  |exact⟨_,rfl,rfl,hb⟩
def Cb (l:List UInt8):Bool:=(bp l).2&&(bp l).1==[]
def vE (l:List UInt8):Bool:=(bp l).2&&Cb (bp l).1
theorem YU:∀l:List UInt8,(bp l).1.length≤l.length
 |[]=>by simp[bp]
 |[a]=>by by_cases h:a=46<;>simp[bp,h]
 |[a,b]=>by by_cases h:a=46<;>simp[bp,h]
 |a::b::c::r=>by
  by_cases h:a=46;·simp[bp,h]
  ·by_cases h2:rI [a,b,c]=[37,50,101];·simp[bp,h,h2];omega
   ·simp[bp,h,h2]
theorem acW (r:ByteArray) {l:List UInt8} (h:r.data.toList=l):(r.toList==[])=(l==[]):=by rw[ByteArray.toList_eq,h]
theorem Ld (s:ByteArray) (w:World) (hs:s.size≤1000000000):
 Calls Tryz.prog 180 #[.string s] w fun e w'=>e= .returned (.bool (Cb s.data.toList))∧Below w.heap.size w w':=by
 have hd:Hid (Cb s.data.toList=((bp s.data.toList).2&&(bp s.data.toList).1==[])):=hid rfl;go_enter Tryz.func180,Tryz.ntmps180;go_wp2_with fail;refine(DH s _ hs).mono ?_;rintro e w2 ⟨r,rfl,hr,hb⟩;have hn:=hid (acW r hr);clear hr;generalize (bp s.data.toList).2=x at*;generalize ((bp s.data.toList).1==[])=y at*;go_wp2_with fail;all_goals go_ret
 all_goals refine⟨aZ ?_,hb⟩
 all_goals(rw[hd.out,←hn.out];simp_all)
theorem Sf (s:ByteArray) (w:World) (hs:s.size≤1000000000):
 Calls Tryz.prog 178 #[.string s] w fun e w'=>e= .returned (.bool (vE s.data.toList))∧Below w.heap.size w w':=by
 have hd:Hid (vE s.data.toList=((bp s.data.toList).2&&Cb (bp s.data.toList).1)):=hid rfl;have Gp:=YU s.data.toList;rw[show s.data.toList.length=s.size by simp] at Gp;go_enter Tryz.func178,Tryz.ntmps178;go_wp2_with fail;refine(DH s _ hs).mono ?_;rintro e w2 ⟨r,rfl,hr,hb⟩;have Cq:r.size≤1000000000:=by rw[←hr] at Gp;rw[show r.data.toList.length=r.size by simp] at Gp;omega
 have HD:=hid (Ld r w2 Cq);rw[hr] at HD;clear hr Gp;generalize (bp s.data.toList).2=x at*;generalize Cb (bp s.data.toList).1=y at*;cases x with
 |true=>go_wp2_with fail;refine HD.out.mono ?_;rintro e w3 ⟨rfl,cF⟩;go_wp2_with fail;go_ret;exact⟨aZ (by rw[hd.out];simp),hb.trans (cF.mono hb.size)⟩
 |false=>go_wp2_with fail;go_ret;exact⟨aZ (by rw[hd.out];rfl),hb⟩
def IG (c:UInt8):Bool:=((c.toNat:Int)==47)||(((c.toNat:Int)==92)||(((c.toNat:Int)==63)||((c.toNat:Int)==35)))
def pI (l:List UInt8):Bool:=jN (l.take 2)&&(match l.drop 2 with|[]=>true|c::_=>IG c)
theorem V0:∀i:Fin 256,decide (0≤Lib.indexByte [47,92,63,35] (UInt8.ofNat i.val))=IG (UInt8.ofNat i.val):=by decide+kernel
theorem YV (c:UInt8):decide (0≤Lib.indexByte [47,92,63,35] c)=IG c:=by have h:=V0 ⟨c.toNat,c.toNat_lt⟩;rwa[show UInt8.ofNat (⟨c.toNat,c.toNat_lt⟩:Fin 256).val=c by simp] at h
theorem Sg {s:ByteArray} (h:s.size < 2):pI s.data.toList=false:=by
 have hl:s.data.toList.length < 2:=by simpa using h
 unfold pI
 match s.data.toList,hl with
 |[],_=>rfl
 |[_],_=>rfl
theorem O1 {s:ByteArray} (h:s.size=2):pI s.data.toList=jN (s.data.toList.take 2):=by
 have hl:s.data.toList.length=2:=by simpa using h
 unfold pI
 match s.data.toList,hl with
 |[_,_],_=>simp
theorem Sh {s:ByteArray} (h:2 < s.size):pI s.data.toList=(jN (s.data.toList.take 2)&&IG s[2]):=by
 obtain⟨⟨l⟩⟩:=s;have hl:2 < l.length:=h
 match l,hl with
 |a::b::c::r,_=>rfl
theorem O2 (c:UInt8) (w:World):
 Calls Tryz.prog 81 #[.string ⟨#[47,92,63,35]⟩,.int .u8 (c.toNat:Int)] w fun e w'=>∃i:Int,e= .returned (.int .i64 i)∧decide (0≤i)=IG c∧w=w':=by
 refine(Tryz.strings_IndexByte ⟨#[47,92,63,35]⟩ (c.toNat:Int) w).mono ?_;rintro e w' ⟨rfl,rfl⟩;rw[DF];exact⟨_,rfl,YV c,rfl⟩
theorem MC (s:ByteArray) (w:World):
 Calls Tryz.prog 136 #[.string s] w fun e w'=>e= .returned (.bool (pI s.data.toList))∧w=w':=by
 by_cases h1:s.size < 2;rw[Sg h1];have tg:=Tg.k 0;rotate_left;have hx:Hid ((s.extract 0 2).data.toList=s.data.toList.take 2):=hid (by rw[Dp];simp);have Ao:2≤s.size:=by omega
 clear h1;by_cases h2:s.size=2;have hs:=hid (O1 h2);have iW:=Oc h2;rw[hs.out];cases hd:jN (s.data.toList.take 2);have HD:=hid hd;clear hd;have tg:=Tg.k 2;rotate_left;have HD:=hid hd;clear hd;have tg:=Tg.k 1;rotate_left;have h3:2 < s.size:=by omega
 have hs:=hid (Sh h3);have iW:=Uh h2;rw[hs.out];clear h2 Ao;have bC:(s[2]).toNat < 256:=s[2].toNat_lt;cases hd:jN (s.data.toList.take 2);have HD:=hid hd;clear hd;have tg:=Tg.k 4;rotate_left;have HD:=hid hd;clear hd;have tg:=Tg.k 3;all_goals
  go_enter Tryz.func136,Tryz.ntmps136;go_wp2_with fail;first
  |have:Tg 0:=tg;all_goals go_ret
   all_goals exact⟨aZ rfl,rfl⟩
  |refine(sU _ _).mono ?_;rintro e w2 ⟨rfl,rfl⟩;rw[hx.out,HD.out];go_wp2_with fail;first
   |have:Tg 3:=tg;refine(O2 _ _).mono ?_;rintro e w2 ⟨i,rfl,hi,rfl⟩;have HI:=hid hi;clear hi;go_wp2_with fail;all_goals go_ret
    all_goals exact⟨aZ (by rw[←HI.out];simp),rfl⟩
   |all_goals go_ret
    all_goals exact⟨aZ (by first|rfl|simp),rfl⟩
theorem iS (w:World) (o:Obj):Below w.heap.size w (w.alloc o):=(Below.refl _ _).alloc (Nat.le_refl _) o
theorem bT.one (w:World) (s:ByteArray):bT (w.alloc (.cells #[.string s] 9)) (.slice (some ⟨w.heap.size,0,none⟩) 1 1) [s]:=by
 refine .inr ⟨w.heap.size,0,1,rfl,Nat.le_refl _,fun j hj=>?_⟩;obtain rfl:j=0:=by simpa using hj
 exact World.cell?_alloc_mark w #[.string s] 9 (0,0) 0
theorem O3 (s:ByteArray) (b:Bool) (hb:jN s.data.toList=b) (w:World):
 Calls Tryz.prog 175 #[.string s] w fun e w'=>e= .returned (.bool b)∧w=w':=by subst hb;exact sU s w
theorem V1 (s:ByteArray) (b:Bool) (hb:Cb s.data.toList=b) (hs:s.size≤1000000000) (w:World):
 Calls Tryz.prog 180 #[.string s] w fun e w'=>e= .returned (.bool b)∧Below w.heap.size w w':=by subst hb;exact Ld s w hs
theorem Si (s:ByteArray) (b:Bool) (hb:vE s.data.toList=b) (hs:s.size≤1000000000) (w:World):
 Calls Tryz.prog 178 #[.string s] w fun e w'=>e= .returned (.bool b)∧Below w.heap.size w w':=by subst hb;exact Sf s w hs
theorem Ur (c:UInt8) (n:Nat) (h:n < 256):((c.toNat:Int)==(n:Int))=(c==UInt8.ofNat n):=by
 rw[Bool.eq_iff_iff];simp only[beq_iff_eq];constructor
 ·intro e;have:c.toNat=n:=by omega
  rw[←this];simp
 ·intro e;subst e;simp[Nat.mod_eq_of_lt h]
theorem acX (sp:Bool) (c:UInt8):LQ sp c=(((c.toNat:Int)==47)||(sp&&((c.toNat:Int)==92))):=by have h1:=Ur c 47 (by decide);have h2:=Ur c 92 (by decide);have e1:((c.toNat:Int)==47)=(c==47):=h1;have e2:((c.toNat:Int)==92)=(c==92):=h2;rw[e1,e2];rfl
def tY (sp:Bool) (l:List UInt8) (k f:Nat) (D:List (List UInt8)):Prop:=dU sp (l.take k)=D++[(l.take k).drop f]
theorem tY.start (sp:Bool) (l:List UInt8):tY sp l 0 0 []:=rfl
theorem tY.cut {sp:Bool} {l:List UInt8} {k f:Nat} {D:List (List UInt8)} (h:tY sp l k f D) (hk:k < l.length) (hs:LQ sp l[k]=true):tY sp l (k+1) (k+1) (D++[(l.take k).drop f]):=by
 unfold tY at h⊢;rw[List.take_succ_eq_append_getElem hk,KG sp _ _ D _ h,if_pos hs];have:(l.take k++[l[k]]).drop (k+1)=[]:=by apply List.drop_eq_nil_of_le;simp;omega
 rw[this];simp
theorem tY.go {sp:Bool} {l:List UInt8} {k f:Nat} {D:List (List UInt8)} (h:tY sp l k f D) (hk:k < l.length) (hf:f≤k) (hs:LQ sp l[k]=false):tY sp l (k+1) f D:=by unfold tY at h⊢;rw[List.take_succ_eq_append_getElem hk,KG sp _ _ D _ h,if_neg (by rw[hs];decide)];rw[List.drop_append_of_le_length (by rw[List.length_take];omega)]
theorem tY.all {sp:Bool} {l:List UInt8} {f:Nat} {D:List (List UInt8)} (h:tY sp l l.length f D):dU sp l=D++[l.drop f]:=by unfold tY at h;rwa[List.take_length] at h
theorem Le (s:ByteArray) (f k:Nat) (h:k≤s.size):s.extract f k=aA ((s.data.toList.take k).drop f):=by rw[N2,List.drop_take]
theorem YW (s:ByteArray) (f:Nat):s.extract f s.size=aA (s.data.toList.drop f):=by have:=Hv s f;rw[←this,BR]
theorem O4 (s:ByteArray) (sp:Bool) (w:World) (hs:s.size≤1000000000):
 Calls Tryz.prog 177 #[.string s,.bool sp] w fun e w'=>∃v,e= .returned v∧fN w' w.heap.size v ((dU sp s.data.toList).map aA)∧Below w.heap.size w w':=by
 have hlen:Hid (s.data.toList.length=s.size):=hid (by simp);go_enter Tryz.func177,Tryz.ntmps177;go_wp2_with fail;go_loopw [5,6,7] (fun v fr i wr=>∃(k f:Nat) (D:List (List UInt8)),k≤s.size∧f≤k∧i= .int .i64 k∧fr= .int .i64 f∧tY sp s.data.toList k f D∧D.length≤k∧fN wr w.heap.size v (D.map aA)∧Below w.heap.size w wr) (fun _ _ i _=>s.size - (intOf i).toNat);case atStart=>exact⟨0,0,[],Nat.zero_le _,Nat.le_refl _,rfl,rfl,tY.start _ _,Nat.le_refl _,fN.nil _ _,Below.refl _ _⟩
 case round=>
  obtain⟨k,f,D,hk,hf,rfl,rfl,hcut,hD,bE,hb⟩:=hrel;obtain⟨Av,cv,hv,_⟩:=bE.read.len;rw[List.length_map] at hv;subst hv;have HC:=hid hcut;have HO:=hid bE;have HB:=hid hb;clear hcut bE hb;by_cases bC:k < s.size
  ·have mE:k < s.data.toList.length:=by rw[hlen.out];exact bC
   have AG:s[k]=s.data.toList[k]:=by simp;rfl
   have tF:=acX sp s[k];cases h1:(((s[k]).toNat:Int)==47)
   ·cases sp
    ·have HN:=hid (HC.out.go mE hf (by rw[←AG,tF,h1];rfl));clear tF AG;go_wp2_with fail;go_roundw;case rel=>exact⟨k+1,f,D,by omega,by omega,by go_num,rfl,HN.out,by omega,HO.out,HB.out⟩
     case measure=>simp[intOf];omega
    ·cases h2:(((s[k]).toNat:Int)==92)
     ·have HN:=hid (HC.out.go mE hf (by rw[←AG,tF,h1,h2];rfl));clear tF AG;go_wp2_with fail;go_roundw;case rel=>exact⟨k+1,f,D,by omega,by omega,by go_num,rfl,HN.out,by omega,HO.out,HB.out⟩
      case measure=>simp[intOf];omega
     ·have HN:=hid (HC.out.cut mE (by rw[←AG,tF,h1,h2];rfl));have HP:=hid (Le s f k (by omega));clear tF AG;go_wp2_with (at_builtin;refine bO rfl _ _ rfl rfl (HO.out.below (iS wr _)) rfl (bT.one wr _) (by simp<;>omega) (Nat.le_trans HB.out.size (by simp)) ?_;intro v2 w2 Us dE;have dE:=hid (HB.out.trans (((Below.refl w.heap.size wr).alloc HB.out.size _).trans dE)));go_roundw;case rel=>exact⟨k+1,k+1,D++[(s.data.toList.take k).drop f],by omega,by omega,by go_num,by go_num,HN.out,by simp;omega,by rw[List.map_append,List.map_cons,List.map_nil,←HP.out];exact Us,dE.out⟩
      case measure=>simp[intOf];omega
   ·have HN:=hid (HC.out.cut mE (by rw[←AG,tF,h1];rfl));have HP:=hid (Le s f k (by omega));clear tF AG;go_wp2_with (at_builtin;refine bO rfl _ _ rfl rfl (HO.out.below (iS wr _)) rfl (bT.one wr _) (by simp<;>omega) (Nat.le_trans HB.out.size (by simp)) ?_;intro v2 w2 Us dE;have dE:=hid (HB.out.trans (((Below.refl w.heap.size wr).alloc HB.out.size _).trans dE)));go_roundw;case rel=>exact⟨k+1,k+1,D++[(s.data.toList.take k).drop f],by omega,by omega,by go_num,by go_num,HN.out,by simp;omega,by rw[List.map_append,List.map_cons,List.map_nil,←HP.out];exact Us,dE.out⟩
    case measure=>simp[intOf];omega
  ·obtain rfl:k=s.size:=by omega
   have HA:=hid (tY.all (by have:=HC.out;rwa[←hlen.out] at this));have HP:=hid (YW s f);go_wp2_with (at_builtin;refine bO rfl _ _ rfl rfl (HO.out.below (iS wr _)) rfl (bT.one wr _) (by simp<;>omega) (Nat.le_trans HB.out.size (by simp)) ?_;intro v2 w2 Us dE;have dE:=hid (HB.out.trans (((Below.refl w.heap.size wr).alloc HB.out.size _).trans dE)));go_ret;exact⟨_,rfl,by rw[HA.out,List.map_append,List.map_cons,List.map_nil,←HP.out];exact Us,dE.out⟩
theorem bT.cellAt {w:World} {A:Option Addr} {n c k:Nat} {l:List ByteArray} (h:bT w (.slice A n c) l) (hk:k < l.length):
 ∃g off,A=some ⟨g,off,none⟩∧w.cell? ⟨g,off+k,none⟩=some (.string l[k]):=by
 rcases h with⟨h,rfl⟩|⟨g,off,c',hv,hc,aW⟩;·simp at hk
 ·injection hv with h1 h2 h3;exact⟨g,off,h1,aW k hk⟩
theorem bT.cells {w:World} {A:Option Addr} {n c:Nat} {l:List ByteArray} (h:bT w (.slice A n c) l) (hk:0 < l.length):
 ∃g off,A=some ⟨g,off,none⟩∧∀j,j < l.length→w.cell? ⟨g,off+j,none⟩=some (.string (l.getD j ByteArray.empty)):=by
 rcases h with⟨h,rfl⟩|⟨g,off,c',hv,hc,aW⟩;·simp at hk
 ·injection hv with h1 h2 h3;refine⟨g,off,h1,fun j hj=>?_⟩;rw[aW j hj];simp[List.getD,hj]
set_option maxHeartbeats 10000000000 in
theorem O5 (v x:Value) (l m:List ByteArray) (w:World) (hv:bT w v l) (hx:bT w x m) (hl:l.length≤1000000000) (hm:m.length≤1000000000):
 Calls Tryz.prog 59 #[v,x] w fun e w'=>e= .returned (.bool (decide (l=m)))∧Below w.heap.size w w':=by
 obtain⟨A,c,rfl,hc⟩:=hv.len;obtain⟨B,d,rfl,hd⟩:=hx.len;by_cases eG:l.length=m.length
 ·by_cases h0:l.length=0;·have hl0:l=[]:=List.length_eq_zero_iff.1 h0;have hm0:m=[]:=List.length_eq_zero_iff.1 (by omega);subst hl0 hm0;refine(Tryz.slices_Equal_string_empty A B c 0 d w (by omega)).mono ?_;rintro e w' ⟨rfl,rfl⟩;exact⟨by simp,Below.refl _ _⟩
  ·obtain⟨g,off,rfl,c1⟩:=hv.cells (by omega);obtain⟨g',Yk,rfl,c2⟩:=hx.cells (by omega);refine(Tryz.slices_Equal_string g off l.length c g' Yk m.length d l m w (Nat.le_refl _) (Nat.le_refl _) (by omega) (by omega) c1 c2).mono ?_;rintro e w' ⟨rfl,q,rfl⟩;exact⟨by rw[List.take_length,List.take_length],⟨rfl,rfl,rfl,Nat.le_refl _,fun _ _=>rfl⟩⟩
 ·have hs:Hid (l≠m):=hid (fun e=>eG (by rw[e]));have GF:((l.length:Int)==(m.length:Int))=false:=by simp;omega
  clear eG;go_enter Tryz.func59,Tryz.ntmps59;go_wp2_with fail;go_ret;exact⟨aZ (by simp[hs.out]),Below.refl _ _⟩
theorem fN.pop {w:World} {base:Nat} {A:Option Addr} {c k:Nat} {l:List ByteArray} (h:fN w base (.slice A l.length c) l) (hk:l.length=k+1):fN w base (.slice A k c) (l.take k):=by
 unfold fN at h⊢;have h':=h;rcases h.2 with⟨_,h0⟩|⟨g,cap,cur,hv,_⟩;·omega
 ·injection hv with e1 e2 e3;subst e1 e3;have hlen:(l.take k).length=k:=by simp;omega
  rw[hlen];rw[hk] at h';refine ownsRow_pop (last:=(l.drop k).map Value.string) (by simp;omega) ?_;rw[←List.map_append,List.take_append_drop];exact h'
theorem O6 (s:ByteArray) (v:Value) (l:List ByteArray) (base:Nat) (w:World) (hv:fN w base v l) (hl:l.length≤1000000000):
 Calls Tryz.prog 179 #[.string s,v] w fun e w'=>∃v',e= .returned v'∧fN w' base v' (lS s l)∧Below w.heap.size w w':=by
 obtain⟨A,c,rfl,hc⟩:=hv.read.len;have HO:=hid hv;by_cases h0:l.length=0;obtain rfl:l=[]:=List.length_eq_zero_iff.1 h0;clear h0 hv;have tg:=Tg.k 0;rotate_left;by_cases h1:l.length=1;obtain⟨x,rfl⟩:=List.length_eq_one_iff.1 h1;obtain⟨g,off,rfl,hx⟩:=hv.read.cellAt (k:=0) (by simp);have hx:w.cell? ⟨g,off,none⟩=some (.string x):=by simpa using hx
 have hp:=hid (fN.pop (k:=0) hv (by simp));have Od:1≤c:=by simpa using hc
 clear h0 h1 hc hl hv;cases hf:(s.toList==[102,105,108,101]);have Gp:lS s [x]=[]:=by unfold lS Rz;rw[hf];rfl
 rw[Gp];clear Gp;have tg:=Tg.k 1;rotate_left;cases hn:jO x.data.toList;have Gp:lS s [x]=[]:=by show(if(s.toList==[102,105,108,101]&&jO x.data.toList)=true then[x] else[x].take 0)=[];rw[hf,hn];rfl
 rw[Gp];have HN:=hid hn;clear Gp hn;have tg:=Tg.k 2;rotate_left;have Gp:lS s [x]=[x]:=by show(if(s.toList==[102,105,108,101]&&jO x.data.toList)=true then[x] else[x].take 0)=[x];rw[hf,hn];rfl
 rw[Gp];have HN:=hid hn;clear Gp hn;have tg:=Tg.k 3;rotate_left;have hm:=A9 (s:=s) (l:=l) (by omega);rw[hm];have hn1:=RA h1;have sE:=RA h0;have hp:=hid (fN.pop (k:=l.length - 1) hv (by omega));have e1:IntKind.i64.wrap ((l.length:Int) - 1)=((l.length - 1:Nat):Int):=by rw[IntWalk.i64_in _ (by omega)];omega
 clear hm hv;generalize hk:l.length - 1=k at*;have hkc:k≤c:=by omega
 have zP:0 < l.length:=by omega
 have tg:=Tg.k 4;all_goals
  go_enter Tryz.func179,Tryz.ntmps179;go_wp2_with fail;first
  |have:Tg 4:=tg;all_goals(go_ret;exact⟨_,rfl,hp.out,Below.refl _ _⟩)
  |(first|have:Tg 2:=tg|have:Tg 3:=tg)
   refine(zO _ _).mono ?_;rintro e w2 ⟨rfl,rfl⟩;rw[HN.out];go_wp2_with fail;go_ret;first
   |have:Tg 2:=tg;exact⟨_,rfl,hp.out,Below.refl _ _⟩
   |exact⟨_,rfl,HO.out,Below.refl _ _⟩
  |go_ret;first
   |have:Tg 0:=tg;exact⟨_,rfl,HO.out,Below.refl _ _⟩
   |exact⟨_,rfl,hp.out,Below.refl _ _⟩
theorem FL (v:Value) (l:List ByteArray) (w:World) (hv:bT w v l) (hl:l.length≤1000000000):
 Calls Tryz.prog 43 #[v] w fun e w'=>∃v',e= .returned v'∧fN w' w.heap.size v' l∧Below w.heap.size w w':=by
 rcases hv with⟨rfl,rfl⟩|⟨g,off,c,rfl,hc,aW⟩;·refine(Tryz.slices_Clone_string_nil _ _ w).mono ?_;rintro e w' ⟨rfl,rfl⟩;exact⟨_,rfl,fN.nil _ _,Below.refl _ _⟩
 ·refine(Tryz.slices_Clone_string g off l.length c l w (Nat.le_refl _) (by omega) (fun j hj=>by rw[aW j hj];simp[List.getD,hj])).mono ?_;rintro e w' ⟨v',rfl,ho,_,hb⟩;refine⟨v',rfl,?_,hb⟩;rw[List.take_length] at ho;exact ho
def bX:TW:=⟨vE,Cb,jN,jO,vP 4,fun l=>l.take 1++[58]⟩
def jT (s:ByteArray):Bool:=s.toList==[102,105,108,101]
theorem Bi (s:ByteArray) (L:List (List UInt8)):lS s (L.map aA)=(TY bX (jT s) L).map aA:=by
 match L with
 |[]=>rfl
 |[x]=>rw[LS];show(if(s.toList==[102,105,108,101]&&jO (aA x).data.toList)=true then[aA x] else[aA x].take 0)=_;rw[aC];show _=(if(jT s&&jO x)=true then[x] else[]).map aA;unfold jT;split<;>rfl
 |x::y::r=>rw[A9 (by simp)];show _=((x::y::r).dropLast).map aA;rw[List.dropLast_eq_take,List.map_take];simp
def kI (file:Bool) (out P:List (List UInt8)) (k:Nat):List (List UInt8):=Ej bX file out (P.take k)++(if k=P.length then KH bX P else[])
theorem O7 (file:Bool) (out P:List (List UInt8)) (h:P≠[]):kI file out P 0=out:=by unfold kI;have:¬(0=P.length):=fun e=>h (List.length_eq_zero_iff.1 e.symm);rw[if_neg this];simp[Ej]
theorem V2 (file:Bool) (out P:List (List UInt8)):kI file out P P.length=Ek bX file out P:=by unfold kI Ek;rw[if_pos rfl,List.take_length]
theorem zV (file:Bool) (out P:List (List UInt8)) (k:Nat) (h:k < P.length):
 kI file out P (k+1)=xK bX file (kI file out P k) P[k]++(if k+1=P.length then(if sM bX P[k]=true then[[]] else[]) else[]):=by
 unfold kI;rw[if_neg (show¬k=P.length by omega),List.append_nil,List.take_succ_eq_append_getElem h,XR,El,NI];congr 1;by_cases he:k+1=P.length
 ·rw[if_pos he,if_pos he];unfold KH;have:P.getLast? =some P[k]:=by rw[List.getLast?_eq_getElem?];rw[show P.length - 1=k by omega];exact List.getElem?_eq_getElem h
  rw[this]
 ·rw[if_neg he,if_neg he]
theorem V3 (file:Bool) (out P:List (List UInt8)) (k:Nat) (h:k < P.length):(kI file out P k).length≤out.length+k:=by unfold kI;rw[if_neg (by omega),List.append_nil];have:=XS bX file (P.take k) out;rw[List.length_take] at this;omega
theorem Sj {p:List UInt8} (h:vE p=true):sM bX p=true:=by simp[sM,bX,h]
theorem V4 {p:List UInt8} (h:Cb p=true):sM bX p=true:=by simp[sM,bX,h]
theorem O8 {p:List UInt8} (h1:vE p=false) (h2:Cb p=false):sM bX p=false:=by simp[sM,bX,h1,h2]
theorem IH {file:Bool} {out P:List (List UInt8)} {k:Nat} (h:k < P.length) (h1:vE P[k]=true):
 kI file out P (k+1)=TY bX file (kI file out P k)++(if k+1=P.length then[[]] else[]):=by
 rw[zV file out P k h,if_pos (Sj h1)];congr 1;unfold xK;exact if_pos h1
theorem Lf {file:Bool} {out P:List (List UInt8)} {k:Nat} (h:k < P.length) (h1:vE P[k]=false) (h2:Cb P[k]=true):
 kI file out P (k+1)=kI file out P k++(if k+1=P.length then[[]] else[]):=by
 rw[zV file out P k h,if_pos (V4 h2)];congr 1;unfold xK;rw[if_neg (show¬bX.Q2 P[k]=true by show¬vE P[k]=true;rw[h1];decide)];exact if_pos h2
theorem O9 {file:Bool} {out P:List (List UInt8)} {k:Nat} (h:k < P.length) (h1:vE P[k]=false) (h2:Cb P[k]=false) (h3:(file&&((kI file out P k).isEmpty&&jN P[k]))=true):
 kI file out P (k+1)=kI file out P k++[P[k].take 1++[58]]:=by
 rw[zV file out P k h,if_neg (show¬sM bX P[k]=true by rw[O8 h1 h2];decide),ite_self,List.append_nil];unfold xK;rw[if_neg (show¬bX.Q2 P[k]=true by show¬vE P[k]=true;rw[h1];decide),if_neg (show¬bX.dot P[k]=true by show¬Cb P[k]=true;rw[h2];decide)];exact if_pos h3
theorem ES {file:Bool} {out P:List (List UInt8)} {k:Nat} (h:k < P.length) (h1:vE P[k]=false) (h2:Cb P[k]=false) (h3:(file&&((kI file out P k).isEmpty&&jN P[k]))=false):
 kI file out P (k+1)=kI file out P k++[vP 4 P[k]]:=by
 rw[zV file out P k h,if_neg (show¬sM bX P[k]=true by rw[O8 h1 h2];decide),ite_self,List.append_nil];unfold xK;rw[if_neg (show¬bX.Q2 P[k]=true by show¬vE P[k]=true;rw[h1];decide),if_neg (show¬bX.dot P[k]=true by show¬Cb P[k]=true;rw[h2];decide)];exact if_neg (show¬(file&&((kI file out P k).isEmpty&&jN P[k]))=true by rw[h3];decide)
theorem YX (sp:Bool) (l:List UInt8):(dU sp l).length≤l.length+1:=by
 induction l with
 |nil=>simp[dU]
 |cons a r ih=>
  unfold dU;split;·simp;omega
  ·split;·simp
   ·next h=>rw[h] at ih;simp at ih⊢;omega
theorem Sk (sp:Bool) (l:List UInt8):∀p∈dU sp l,p.length≤l.length:=by
 induction l with
 |nil=>simp[dU]
 |cons a r ih=>
  unfold dU;split
  ·intro p hp;rcases List.mem_cons.1 hp with rfl|hp;·simp
   ·have:=ih p hp;simp;omega
  ·split;·intro p hp;simp at hp;subst hp;simp
   ·next q qs h=>
    rw[h] at ih;intro p hp;rcases List.mem_cons.1 hp with rfl|hp;·have:=ih q (by simp);simp;omega
    ·have:=ih p (by simp[hp]);simp;omega
end Go.Proofs.YtmgmclkplepapaaGreatDoor
