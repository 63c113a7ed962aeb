/- Part of the proof of TopBoundsUptoCardSaid. Conditions: none beyond the statement. -/
import Derived.Test.YtmgmclkplepapaaGreatDoorPt22
set_option linter.all false
set_option maxRecDepth 100000
set_option maxHeartbeats 64000000
namespace Go.Proofs.YtmgmclkplepapaaGreatDoor
open Go.RowKit
def DL:Nat→Nat→List UInt8→Option Nat
 |0,n,s=>if(bM 46 s).2.2 then none else(cW s).map (n*256+ ·)
 |m+1,n,s=>if(bM 46 s).2.2 then(match cW (bM 46 s).1 with
  |none=>none
  |some d=>DL m (n*256+d) (bM 46 s).2.1) else none
def IP:Nat→List (List UInt8)→Option Nat
 |n,[]=>some n
 |n,p::r=>match cW p with
  |none=>none
  |some d=>IP (n*256+d) r
theorem adB:∀(m n:Nat) (s:List UInt8),DL m n s=if(fZ 46 s).length=m+1 then IP n (fZ 46 s) else none:=by
 intro m;induction m with
 |zero=>
  intro n s;rw[DL];by_cases h:(46:UInt8)∈s
  ·obtain⟨a,r,rfl,ha⟩:=vF h;have hc:(bM 46 (a++46::r)).2.2=true:=by unfold bM;rw[if_pos (by simp)]
   rw[if_pos hc,Hb ha,if_neg];have:=List.length_pos_iff.mpr (BM 46 r);simp only[List.length_cons];omega
  ·have hc:(bM 46 s).2.2=false:=by unfold bM;rw[if_neg (by simpa using h)]
   rw[if_neg (by rw[hc];decide),Bo h,if_pos (show[s].length=0+1 from rfl)];simp only[IP];cases cW s<;>rfl
 |succ m ih=>
  intro n s;rw[DL];by_cases h:(46:UInt8)∈s
  ·obtain⟨a,r,rfl,ha⟩:=vF h;have hc:bM 46 (a++46::r)=(a,r,true):=by obtain⟨h1,h2⟩:=BV (r:=r) ha;unfold bM;rw[if_pos (by simp),h1,h2];rfl
   rw[hc,if_pos rfl,Hb ha];simp only[List.length_cons,IP];cases hd:cW a with
   |none=>simp
   |some d=>
    simp only;rw[ih];by_cases hl:(fZ 46 r).length=m+1;·rw[if_pos hl,if_pos (by omega)]
    ·rw[if_neg hl,if_neg (by omega)]
  ·have hc:(bM 46 s).2.2=false:=by unfold bM;rw[if_neg (by simpa using h)]
   rw[if_neg (by rw[hc];decide),Bo h,if_neg (by simp)]
theorem FQ (s:List UInt8):kE s=(DL 3 0 s).map fun n=>(n / 65536 % 65536,n % 65536):=by
 rw[adB];unfold kE;split
 ·rename_i a b c d h;rw[h,if_pos (show[a,b,c,d].length=3+1 from rfl)];simp only[IP];cases cW a with
  |none=>rfl
  |some a=>
   cases cW b with
   |none=>rfl
   |some b=>
    cases cW c with
    |none=>rfl
    |some c=>
     cases cW d with
     |none=>rfl
     |some d=>simp
 ·rename_i h;rw[if_neg];·rfl
  ·intro hl
   match hc:fZ 46 s,hl with
   |[a,b,c,d],_=>exact h a b c d hc
def Y9 (o:Option (Nat×Nat)):Ending:=match o with
 |some (a,b)=> .returned (.tuple #[.int .u16 (a:Int),.int .u16 (b:Int)])
 |none=>EU
theorem FR {s:List UInt8} {n:Nat} (h:cW s=some n):n≤255:=by
 unfold cW at h;split at h;·cases h
 ·split at h;·cases h
  ·split at h;·cases h
   ·cases h;omega
theorem yG:(⟨#[46]⟩:ByteArray)=aA [46]:=rfl
theorem uN (q:UInt8) (s:List UInt8):(bM q s).1.length≤s.length∧(bM q s).2.1.length≤s.length:=by
 have:=sO q s;by_cases h:(bM q s).2.2=true;·rw[if_pos h] at this;omega
 ·rw[if_neg h] at this;unfold bM at h⊢;split at h;·exact absurd rfl h
  ·rename_i hc;rw[if_neg hc];simp
theorem Za (n:Int):bits .and .i64 n 65535=n % 65536:=by
 have agW:(BitVec.ofInt 64 65535).toNat=2 ^ 16 - 1:=by decide
 have key:(BitVec.ofInt 64 n&&&BitVec.ofInt 64 65535).toNat=(n % ((2 ^ 64:Nat):Int)).toNat % 2 ^ 16:=by rw[BitVec.toNat_and,BitVec.toNat_ofInt,agW,Nat.and_two_pow_sub_one_eq_mod]
 show IntKind.i64.wrap ((BitVec.ofInt 64 n&&&BitVec.ofInt 64 65535).toNat:Nat)=n % 65536;rw[key,IntKind.wrap_i64];omega
theorem GI (s:List UInt8) (hs:s.length≤1000000000) (w:World) (hW:Laid w):Calls Tryz.prog 224 #[.string (aA s)] w fun e w'=>e=Y9 (kE s)∧Below w.heap.size w w':=by
 have HR:=hid (FQ s);have HW:=hid hW;clear hW;go_enter Tryz.func224,Tryz.ntmps224;go_wp2_with fail;go_loopw [0,4,9] (fun x a i wr=>∃(t:List UInt8) (n k:Nat),x= .string (aA t)∧a= .int .i64 (n:Int)∧i= .int .i64 (k:Int)∧t.length≤1000000000∧k≤4∧Hid (n < 256 ^ k)∧Hid ((k < 4∧DL 3 0 s=DL (3 - k) n t)∨(k=4∧DL 3 0 s=some n))∧Hid (Below w.heap.size w wr)) (fun _ _ i _=>4 - (intOf i).toNat);case atStart=>exact⟨s,0,0,rfl,rfl,rfl,hs,by omega,hid (by decide),hid (.inl ⟨by omega,rfl⟩),hid (Below.refl _ _)⟩
 case round=>
  obtain⟨t,n,k,rfl,rfl,rfl,ht,hk,hn,hF,dR⟩:=hrel;by_cases bC:k < 4
  ·have aT:=(hF.out.resolve_right (fun h=>by omega)).2;have HC:=hid (fun W hW=>oH t 46 (by omega) W hW);have oO:=uN 46 t;have agX:k < 3→DL 3 0 s=if(bM 46 t).2.2 then(match cW (bM 46 t).1 with
    |none=>none
    |some d=>DL (3 - (k+1)) (n*256+d) (bM 46 t).2.1) else none:=by
    intro h;rw[aT,show 3 - k=(3 - (k+1))+1 by omega];rfl
   have agY:¬k < 3→DL 3 0 s=if(bM 46 t).2.2 then none else(cW t).map (n*256+ ·):=by intro h;rw[aT,show 3 - k=0 by omega];rfl
   clear aT;have hp:(256:Nat) ^ k≤256 ^ 3:=Nat.pow_le_pow_right (by omega) (by omega);have hn4:n < 16777216:=Nat.lt_of_lt_of_le hn.out hp;have HD:=hid (fun w=>Pn (bM 46 t).1 (by omega) w);have hcf:(bM 46 t).2.2=false→(bM 46 t).1=t:=by
    intro h;unfold bM at h⊢;split at h;·cases h
    ·rename_i hc;rw[if_neg hc]
   generalize bM 46 t=z at*;obtain⟨p,r,more⟩:=z;simp only at HC HD oO hcf;obtain⟨VT,aH⟩:=oO;clear hF hp VT;by_cases XJ:k < 3
   ·have aT:=agX XJ;have hd3:decide ((k:Int) < 3)=true:=by simp;omega
    clear agX agY hcf;cases more with
    |false=>have HF:Hid (kE s=none):=hid (by rw[HR.out,aT];rfl);clear aT;go_wp2_with fail;rw[yG];refine(HC.out _ (HW.out.step dR.out)).mono ?_;rintro e w2 ⟨rfl,dE⟩;have cK:=aR dR dE;clear dE;go_wp2_with fail;exact⟨rfl,by rw[HF.out];rfl,cK.out⟩
    |true=>
     rw[if_pos rfl] at aT;cases MG:cW p with
     |none=>rw[MG] at HD aT;have HF:Hid (kE s=none):=hid (by rw[HR.out,aT];rfl);simp only[Y7,EU] at HD;clear aT MG;go_wp2_with fail;rw[yG];refine(HC.out _ (HW.out.step dR.out)).mono ?_;rintro e w2 ⟨rfl,dE⟩;have cK:=aR dR dE;clear dE;go_wp2_with fail;refine(HD.out _).mono ?_;rintro e w' ⟨rfl,rfl⟩;go_wp2_with fail;exact⟨rfl,by rw[HF.out];rfl,cK.out⟩
     |some d=>
      have CL:=FR MG;rw[MG] at HD aT;simp only[Y7] at HD aT;have HF:=hid (show DL 3 0 s=DL (3 - (k+1)) (n*256+d) r from aT);have HN:Hid (n*256+d < 256 ^ (k+1)):=hid (by have:=hn.out;rw[Nat.pow_succ];omega);clear aT MG;go_wp2_with fail;rw[yG];refine(HC.out _ (HW.out.step dR.out)).mono ?_;rintro e w2 ⟨rfl,dE⟩;have cK:=aR dR dE;clear dE;go_wp2_with fail;refine(HD.out _).mono ?_;rintro e w' ⟨rfl,rfl⟩;go_wp2_with fail;go_roundw;case rel=>exact⟨r,n*256+d,k+1,rfl,by go_num,by go_num,by omega,by omega,HN,hid (.inl ⟨by omega,HF.out⟩),cK⟩
      case measure=>simp[intOf];omega
   ·have aT:=agY XJ;have anN:k=3:=by omega
    subst anN;clear agX agY;cases more with
    |true=>have HF:Hid (kE s=none):=hid (by rw[HR.out,aT];rfl);clear aT;go_wp2_with fail;rw[yG];refine(HC.out _ (HW.out.step dR.out)).mono ?_;rintro e w2 ⟨rfl,dE⟩;have cK:=aR dR dE;clear dE;go_wp2_with fail;exact⟨rfl,by rw[HF.out];rfl,cK.out⟩
    |false=>
     rw[if_neg (by simp)] at aT;obtain rfl:=hcf rfl;cases MG:cW p with
     |none=>rw[MG] at HD aT;have HF:Hid (kE s=none):=hid (by rw[HR.out,aT];rfl);simp only[Y7,EU] at HD;clear aT MG;go_wp2_with fail;rw[yG];refine(HC.out _ (HW.out.step dR.out)).mono ?_;rintro e w2 ⟨rfl,dE⟩;have cK:=aR dR dE;clear dE;go_wp2_with fail;refine(HD.out _).mono ?_;rintro e w' ⟨rfl,rfl⟩;go_wp2_with fail;exact⟨rfl,by rw[HF.out];rfl,cK.out⟩
     |some d=>
      have CL:=FR MG;rw[MG] at HD aT;simp only[Y7] at HD aT;have HF:=hid (show DL 3 0 s=some (n*256+d) from aT);have HN:Hid (n*256+d < 256 ^ 4):=hid (by have:=hn.out;omega);clear aT MG;go_wp2_with fail;rw[yG];refine(HC.out _ (HW.out.step dR.out)).mono ?_;rintro e w2 ⟨rfl,dE⟩;have cK:=aR dR dE;clear dE;go_wp2_with fail;refine(HD.out _).mono ?_;rintro e w' ⟨rfl,rfl⟩;go_wp2_with fail;go_roundw;case rel=>exact⟨r,n*256+d,4,rfl,by go_num,rfl,by omega,by omega,HN,hid (.inr ⟨rfl,HF.out⟩),cK⟩
      case measure=>simp[intOf]
  ·have hk4:k=4:=by omega
   subst hk4;have aT:=(hF.out.resolve_left (fun h=>by omega)).2;have HF:Hid (kE s=some (n / 65536 % 65536,n % 65536)):=hid (by rw[HR.out,aT];rfl);have hn4:n < 4294967296:=hn.out;have ha:=Za (n:Int);have hq:n / 65536 % 65536=n / 65536:=Nat.mod_eq_of_lt (by omega);rw[hq] at HF;clear hF aT hq;go_wp2_with fail;go_ret2;exact⟨by rw[HF.out];rfl,dR.out⟩
theorem agZ:(⟨#[48,120]⟩:ByteArray)=aA [48,120]:=rfl
theorem ahA:(⟨#[48,88]⟩:ByteArray)=aA [48,88]:=rfl
theorem rN (o:Option Nat):∃(n:Int) (b:Bool),vG o= .tuple #[.int .i64 n,.bool b]∧b=o.isSome∧∀d,o=some d→n=(d:Int):=by
 cases o with
 |none=>exact⟨0,false,rfl,rfl,fun d h=>by cases h⟩
 |some d=>exact⟨(d:Int),true,rfl,rfl,fun e h=>by cases h;rfl⟩
theorem FT (s:List UInt8) (hs:s.length≤1000000000) (w:World):Calls Tryz.prog 223 #[.string (aA s)] w fun e w'=>e= .returned (vG (wX s))∧w=w':=by
 have HP1:=hid (fun w=>jU s [48,120] w);have HP2:=hid (fun w=>jU s [48,88] w);have Bd:=aD s;by_cases hx:([48,120].isPrefixOf s||[48,88].isPrefixOf s)=true;have hlen:2≤s.length:=by
  rcases Bool.or_eq_true _ _▸hx with h|h;·have:=List.IsPrefix.length_le (List.isPrefixOf_iff_prefix.1 h);simpa using this
  ·have:=List.IsPrefix.length_le (List.isPrefixOf_iff_prefix.1 h);simpa using this
 have C9:([48,120].isPrefixOf s=true)∨([48,120].isPrefixOf s=false∧[48,88].isPrefixOf s=true):=by
  cases h1:[48,120].isPrefixOf s with
  |true=>exact .inl rfl
  |false=>rw[h1] at hx;exact .inr ⟨rfl,by simpa using hx⟩
 have We:2≤(aA s).size:=by omega
 have rX:(aA s).size≤s.length:=by omega
 have jB:Hid (wX s=if s.length=2 then some 0 else uB 16 (s.drop 2)):=hid (by unfold wX;rw[if_pos hx]);by_cases h2:s.length=2;have HF:Hid (wX s=some 0):=hid (by rw[jB.out,if_pos h2]);have hd:(((aA s).size:Int)==2)=true:=by rw[Bd,h2];rfl
 clear h2 hx hlen Bd We rX;rcases C9 with h|⟨h,h'⟩;rw[h] at HP1;clear h;have tg:=Tg.k 0;rotate_left;rw[h] at HP1;rw[h'] at HP2;clear h h';have tg:=Tg.k 1;rotate_left;have HF:Hid (wX s=uB 16 (s.drop 2)):=hid (by rw[jB.out,if_neg h2]);have hd:(((aA s).size:Int)==2)=false:=by rw[Bd];simp;omega
 have akJ:(aA s).extract 2 (aA s).size=aA (s.drop 2):=cX s 2;have HD:=hid (fun w=>wI (s.drop 2) 16 (by decide) (by decide) 16 rfl (by rw[List.length_drop];omega) w);obtain⟨n,b,Sx,hb,hn⟩:=rN (uB 16 (s.drop 2));have HNV:=hid Sx;rw[Sx] at HD;clear h2 hx hlen Bd Sx hb hn;rcases C9 with h|⟨h,h'⟩;rw[h] at HP1;clear h;have tg:=Tg.k 2;rotate_left;rw[h] at HP1;rw[h'] at HP2;clear h h';have tg:=Tg.k 3;rotate_left;have Ol:([48,120].isPrefixOf s||[48,88].isPrefixOf s)=false:=by rw[Bool.not_eq_true] at hx;exact hx
 rw[Bool.or_eq_false_iff] at Ol;rw[Ol.1] at HP1;rw[Ol.2] at HP2;have jB:Hid (wX s=if decide (1 < s.length)&&s.head? ==some 48 then uB 8 (s.drop 1) else uB 10 s):=hid (by unfold wX;rw[if_neg hx]);clear hx Ol;have H10:Hid (∀w,Calls Tryz.prog 222 #[.string (aA s),.int .i64 10] w fun e w'=>e= .returned (vG (uB 10 s))∧w=w'):=hid (fun w=>wI s 10 (by decide) (by decide) 10 rfl hs w);by_cases h1:1 < s.length;have Co:1 < (aA s).size:=by omega
 have rX:(aA s).size≤s.length:=by omega
 have hs0:0 < (aA s).size:=by omega
 have hg0:(aA s)[0]'hs0=s[0]'(by omega):=jJ s 0 hs0;have hh:s.head? =some (s[0]'(by omega)):=by rw[List.head?_eq_getElem?,List.getElem?_eq_getElem (by omega)]
 rw[hh] at jB;have iF:(s[0]'(by omega)).toNat < 256:=(s[0]'(by omega)).toNat_lt;obtain⟨c,Lc⟩:∃c,c=s[0]'(by omega):=⟨_,rfl⟩;rw[←Lc] at hg0 jB iF;clear hh Lc Bd;by_cases Y8:c=48;have HF:Hid (wX s=uB 8 (s.drop 1)):=hid (by rw[jB.out,Y8];simp[h1]);have hci:((c.toNat:Int)==48)=true:=by rw[Y8];rfl
 have akJ:(aA s).extract 1 (aA s).size=aA (s.drop 1):=cX s 1;have HD:=hid (fun w=>wI (s.drop 1) 8 (by decide) (by decide) 8 rfl (by rw[List.length_drop];omega) w);obtain⟨t,ht⟩:∃t,t=s.drop 1:=⟨_,rfl⟩;rw[←ht] at HF akJ HD;clear ht;obtain⟨n,b,Sx,hb,hn⟩:=rN (uB 8 t);have HNV:=hid Sx;rw[Sx] at HD;clear Y8 Sx hb hn;have tg:=Tg.k 4;rotate_left;have HF:Hid (wX s=uB 10 s):=hid (by rw[jB.out];simp[Y8]);have hci:((c.toNat:Int)==48)=false:=by rw[beq_eq_false_iff_ne];intro e;exact Y8 (by rw[←UInt8.toNat_inj];show c.toNat=48;omega)
 obtain⟨n,b,Sx,hb,hn⟩:=rN (uB 10 s);have HNV:=hid Sx;rw[Sx] at H10;clear Y8 Sx hb hn;have tg:=Tg.k 5;rotate_left;have HF:Hid (wX s=uB 10 s):=hid (by rw[jB.out];simp[h1]);have Co:(aA s).size≤1:=by omega
 obtain⟨n,b,Sx,hb,hn⟩:=rN (uB 10 s);have HNV:=hid Sx;rw[Sx] at H10;clear Sx hb hn Bd h1;have tg:=Tg.k 6;all_goals
  go_enter Tryz.func223,Tryz.ntmps223;go_wp2_with fail;rw[agZ];refine(HP1.out _).mono ?_;rintro e w' ⟨rfl,rfl⟩;go_wp2_with fail;first
  |have:Tg 0:=tg
  |first
   |have:Tg 2:=tg;refine(HD.out _).mono ?_
   |rw[ahA];refine(HP2.out _).mono ?_;first
    |have:Tg 1:=tg
    |rintro e w' ⟨rfl,rfl⟩;go_wp2_with fail;first
     |(first|have:Tg 5:=tg|have:Tg 6:=tg)
      refine(H10.out _).mono ?_
     |refine(HD.out _).mono ?_
   rintro e w' ⟨rfl,rfl⟩;go_wp2_with fail
  go_ret2;first
  |(first|have:Tg 0:=tg|have:Tg 1:=tg)
   exact⟨hY (by rw[HF.out];rfl),rfl⟩
  |exact⟨hY (by rw[HF.out,HNV.out];rfl),rfl⟩
theorem FU {w:World} {g n c:Nat} {l:List ByteArray} (h:bT w (.slice (some ⟨g,0,none⟩) n c) l):n=l.length∧∀j (h:j < l.length),w.cell? ⟨g,j,none⟩=some (.string l[j]):=by
 rcases h with⟨h,_⟩|⟨g',Yk,c',hv,hc,aW⟩;·cases h
 ·injection hv with h1 h2 h3;injection h1 with h1;injection h1 with h4 h5 h6;subst h4 h5 h3;exact⟨h2,fun j hj=>by have:=aW j hj;rwa[Nat.zero_add] at this⟩
theorem Li (w:World) (l:List ByteArray) (j:Nat) (hj:j < l.length):(w.alloc (.cells (l.map Value.string).toArray 9)).cell? ⟨w.heap.size,j,none⟩=some (.string l[j]):=by rw[World.cell?_alloc_mark w (l.map Value.string).toArray 9 (0,0) j];simp[List.getElem?_eq_getElem hj]
theorem Wf (w:World) (l:List ByteArray):bT (w.alloc (.cells (l.map Value.string).toArray 9)) (.slice (some ⟨w.heap.size,0,none⟩) l.length l.length) l:=
 .inr ⟨w.heap.size,0,l.length,rfl,Nat.le_refl _,fun j hj=>by rw[Nat.zero_add];exact Li w l j hj⟩
theorem EV (q:UInt8):∀(s:List UInt8),(fZ q s).length≤s.length+1:=by
 intro s;induction s with
 |nil=>simp[fZ]
 |cons c t ih=>
  rw[fZ];split;·simp;omega
  ·split;·simp
   ·rename_i p r hp;rw[hp] at ih;simp at ih⊢;omega
theorem FV (q:UInt8):∀(s:List UInt8),∀p∈fZ q s,p.length≤s.length:=by
 intro s;induction s with
 |nil=>intro p hp;have:p=[]:=by simpa[fZ] using hp
       subst this;simp
 |cons c t ih=>
  intro p hp;rw[fZ] at hp;split at hp
  ·rcases List.mem_cons.1 hp with rfl|hp;·simp
   ·have:=ih p hp;simp;omega
  ·split at hp
   ·have:p=[c]:=by simpa using hp
    subst this;simp
   ·rename_i a r hr;rcases List.mem_cons.1 hp with rfl|hp;·have:=ih a (by rw[hr];simp);simp;omega
    ·have:=ih p (by rw[hr];simp[hp]);simp;omega
theorem Lj (s:List UInt8):fE s≠[]:=by
 have h:=BM 46 s;unfold fE;simp only;split;·rename_i hc;intro e;have:=congrArg List.length e;rw[List.length_dropLast] at this;simp at this;omega
 ·exact h
theorem Zb:(⟨#[46]⟩:ByteArray)=aA [46]:=rfl
theorem IQ (s:List UInt8) (hs:s.length≤1000000000) (w:World) (hW:Laid w):Calls Tryz.prog 221 #[.string (aA s)] w fun e w'=>∃g c,e= .returned (.slice (some ⟨g,0,none⟩) (fE s).length c)∧bT w' (.slice (some ⟨g,0,none⟩) (fE s).length c) ((fE s).map aA)∧Below w.heap.size w w':=by
 have CO:=hid (IL s 46 (by omega) w hW);have eG:=BM 46 s;have hlen:=EV 46 s;have HFP:Hid (fE s=if 1 < (fZ 46 s).length∧(fZ 46 s).getLast? =some [] then(fZ 46 s).dropLast else fZ 46 s):=hid rfl;generalize fZ 46 s=L at*;obtain⟨q,hq⟩:∃q,L.length=q+1:=⟨L.length - 1,by have:=List.length_pos_iff.mpr eG;omega⟩;have hrd:=Wf w (L.map aA);rw[List.length_map,hq] at hrd;rw[hq] at CO;have A5:(w.alloc (.cells ((L.map aA).map Value.string).toArray 9)).cell? ⟨w.heap.size,q,none⟩=some (.string (aA (L[q]'(by omega)))):=by rw[Li w (L.map aA) q (by rw[List.length_map];omega)];simp
 have hgl:L.getLast? =some (L[q]'(by omega)):=by rw[List.getLast?_eq_getElem?,List.getElem?_eq_getElem (by omega)];simp[hq]
 have uE:=xC w (.cells ((L.map aA).map Value.string).toArray 9);obtain⟨p,hp⟩:∃p,p=L[q]'(by omega):=⟨_,rfl⟩;rw[←hp] at hgl A5;rw[hgl,hq] at HFP;generalize w.alloc (.cells ((L.map aA).map Value.string).toArray 9)=w1 at*;have GJ:=hid hrd;have HQ:=hid hq;have HB:=hid uE;have Lb:q≤1000000000:=by omega
 clear hgl hp hrd eG hlen hq uE;by_cases h1:1 < q+1;by_cases hpe:p=[];have hF:fE s=L.dropLast:=by rw[HFP.out,if_pos ⟨h1,by rw[hpe]⟩]
 have hFl:(fE s).length=q:=by rw[hF,List.length_dropLast,HQ.out];rfl
 have zW:(aA p).toList.isEmpty=true:=by rw[hpe,cC];rfl
 have hR:bT w1 (.slice (some ⟨w.heap.size,0,none⟩) q (q+1)) ((fE s).map aA):=by have:=bT.take (n:=q) (by rw[List.length_map,HQ.out];exact GJ.out) (by rw[List.length_map,HQ.out];omega);rw[hF,List.dropLast_eq_take,HQ.out];rwa[←List.map_take] at this
 have HR:=hid hR;have QP:=hid hFl;clear hpe hF hFl hR;have tg:=Tg.k 0;rotate_left;have hF:fE s=L:=by rw[HFP.out,if_neg (fun h=>hpe (by injection h.2))]
 have zW:(aA p).toList.isEmpty=false:=mN hpe;have HF:=hid hF;clear hpe hF;have tg:=Tg.k 1;rotate_left;have hF:fE s=L:=by rw[HFP.out,if_neg (fun h=>h1 h.1)]
 have HF:=hid hF;clear hF;have tg:=Tg.k 2;all_goals
  go_enter Tryz.func221,Tryz.ntmps221;go_wp2_with fail;rw[Zb];refine CO.out.mono ?_;rintro e w' ⟨rfl,rfl⟩;go_wp2_with fail;go_ret;first
  |have:Tg 0:=tg;exact⟨w.heap.size,q+1,by rw[QP.out];rfl,by rw[QP.out];exact HR.out,HB.out⟩
  |exact⟨w.heap.size,q+1,by rw[HF.out,HQ.out];rfl,by rw[HF.out,HQ.out];exact GJ.out,HB.out⟩
theorem Zc (s:List UInt8) (p:List UInt8) (h:(fE s).getLast? =some p):Ht s=((uB 10 p).isSome||(wX p).isSome):=by unfold Ht;rw[h];rfl
theorem Wg (s:List UInt8) (hs:s.length≤1000000000) (w:World) (hW:Laid w):Calls Tryz.prog 212 #[.string (aA s)] w fun e w'=>e= .returned (.bool (Ht s))∧Below w.heap.size w w':=by
 have HP:=hid (IQ s hs w hW);have eG:=Lj s;have FW:∀p∈fE s,p.length≤1000000000:=by
  intro p hp;have key:∀p∈fZ 46 s,p.length≤s.length:=FV 46 s;have:p∈fZ 46 s:=by
   unfold fE at hp;simp only at hp;split at hp;·exact List.dropLast_subset _ hp
   ·exact hp
  have:=key p this;omega
 have hfl:(fE s).length≤1000000001:=by
  have:=EV 46 s;unfold fE;simp only;split;·rw[List.length_dropLast];omega
  ·omega
 obtain⟨q,hq⟩:∃q,(fE s).length=q+1:=⟨(fE s).length - 1,by have:=List.length_pos_iff.mpr eG;omega⟩;obtain⟨p,hp⟩:∃p,p=(fE s)[q]'(by omega):=⟨_,rfl⟩;have hgl:(fE s).getLast? =some p:=by rw[List.getLast?_eq_getElem?,hp,List.getElem?_eq_getElem (by omega)];simp[hq]
 have HF:=hid (Zc s p hgl);have ahB:=FW p (by rw[hp];exact List.getElem_mem _);have oO:∀g w',bT w' (.slice (some ⟨g,0,none⟩) (q+1) 0) []∨True:=fun _ _=> .inr trivial;have QQ:Hid (∀g c w',bT w' (.slice (some ⟨g,0,none⟩) (fE s).length c) ((fE s).map aA)→w'.cell? ⟨g,q,none⟩=some (.string (aA p))):=hid (by
  intro g c w' h;obtain⟨_,h2⟩:=FU h;have:=h2 q (by rw[List.length_map];omega);rw[this,hp];simp)
 rw[hq] at HP QQ;have HD:=hid (fun w=>wI p 10 (by decide) (by decide) 10 rfl ahB w);have HN:=hid (fun w=>FT p ahB w);obtain⟨n1,b1,Dy,eN,_⟩:=rN (uB 10 p);obtain⟨n2,b2,Yp,dE,_⟩:=rN (wX p);rw[Dy] at HD;rw[Yp] at HN;rw[←eN,←dE] at HF;have Lb:q≤1000000000:=by omega
 clear oO FW hfl hgl hp ahB Dy Yp eN dE eG hq;cases b1;have tg:=Tg.k 1;rotate_left;have tg:=Tg.k 0;all_goals
  go_enter Tryz.func212,Tryz.ntmps212;go_wp2_with fail;refine HP.out.mono ?_;rintro e w1 ⟨g,c,rfl,hr,hb⟩;have hc:=QQ.out g c w1 hr;clear hr;go_wp2_with fail;refine(HD.out _).mono ?_;rintro e w' ⟨rfl,rfl⟩;go_wp2_with fail;first
  |have:Tg 1:=tg;refine(HN.out _).mono ?_;rintro e w' ⟨rfl,rfl⟩;go_wp2_with fail
  |skip
  go_ret;exact⟨aZ (by rw[HF.out];rfl),hb⟩
def Zd (o:Option Nat):Value:=match o with
 |some d=> .tuple #[.int .u32 (d:Int),.bool true]
 |none=> .tuple #[.int .u32 0,.bool false]
theorem Ze (i sum:Nat) (p:List UInt8):KU i sum [p]=match wX p with
 |none=>none
 |some n=>if 2 ^ (8*(4 - i))≤n then none else some (sum+n):=rfl
theorem Zf (i sum:Nat) (p q:List UInt8) (r:List (List UInt8)):KU i sum (p::q::r)=match wX p with
 |none=>none
 |some n=>if 255 < n then none else KU (i+1) (sum+n*2 ^ (8*(3 - i))) (q::r):=rfl
theorem Uw {s:List UInt8} {n:Nat} (h:wX s=some n):n≤4294967296:=by
 have key:∀(base:Nat) (s:List UInt8) (a n:Nat),a≤4294967296→Dg base a s=some n→n≤4294967296:=by
  intro base s;induction s with
  |nil=>intro a n ha h;rw[Lg] at h;cases h;exact ha
  |cons c t ih=>
   intro a n ha h;rw[IM] at h;split at h;·cases h
   ·exact ih _ n (Nat.min_le_right _ _) h
 have ahC:∀(base:Nat) (s:List UInt8) (n:Nat),uB base s=some n→n≤4294967296:=by
  intro base s n h;unfold uB at h;split at h;·cases h
  ·exact key base s 0 n (by omega) h
 unfold wX at h;split at h
 ·split at h;·cases h;omega
  ·exact ahC _ _ _ h
 ·split at h;·exact ahC _ _ _ h
  ·exact ahC _ _ _ h
theorem Zg (n:Nat):IntKind.u32.wrap (n:Int)=((n % 4294967296:Nat):Int):=by rw[IntKind.wrap_u32];omega
theorem oI {ops:Array Oper} {rest:List Oper} {o:Oper} {a:Act} {Q:Exit→Act→World→Prop} {w:World} (hw:Region.wanted o (yielded ops a.tmps)=true) (op:BinOp) (t t':TypeId) (x y:Operand) (JM:o.op= .binOp op t x y t') (v:Value)
 (hg:(eqGuard op t x y (a.eval x) (a.eval y)).run Tryz.prog w= .ok () w) (hr:(binOp op t (a.eval x) (a.eval y)).run Tryz.prog w= .ok v w) (hK:wpList Tryz.prog ops Q rest (a.put o.dst v) w):wpList Tryz.prog ops Q (o::rest) a w:=by
 refine bF hw fun K' Gt=>?_;unfold Oper.wp;simp[execOp,JM,hg,hr,Result.andThen];exact Gt _ _ hK
theorem Sy (s:List UInt8) (hs:s.length≤1000000000) (w:World) (hW:Laid w):Calls Tryz.prog 213 #[.string (aA s)] w fun e w'=>e= .returned (Zd (mK s))∧Below w.heap.size w w':=by
 have HP:=hid (IQ s hs w hW);have eG:=Lj s;have HPL:Hid (∀p∈fE s,p.length≤1000000000):=hid (by
  intro p hp;have:p∈fZ 46 s:=by
   unfold fE at hp;simp only at hp;split at hp;·exact List.dropLast_subset _ hp
   ·exact hp
  have:=FV 46 s p this;omega)
 have hfl:(fE s).length≤1000000001:=by
  have:=EV 46 s;unfold fE;simp only;split;·rw[List.length_dropLast];omega
  ·omega
 have HFP:Hid (mK s=if 4 < (fE s).length then none else(KU 0 0 (fE s)).map (·% 4294967296)):=hid rfl;generalize fE s=L at*;obtain⟨N,hN⟩:∃N,L.length=N:=⟨_,rfl⟩;have hN1:1≤N:=by have:=List.length_pos_iff.mpr eG;omega
 rw[hN] at HP HFP hfl;have HN:=hid hN;clear eG hN;by_cases h4:4 < N;·have HF:Hid (mK s=none):=hid (by rw[HFP.out,if_pos h4]);go_enter Tryz.func213,Tryz.ntmps213;go_wp2_with fail;refine HP.out.mono ?_;rintro e w1 ⟨g,c,rfl,hr,hb⟩;clear hr;go_wp2_with fail;go_ret2;exact⟨hY (by rw[HF.out];rfl),hb⟩
 ·have HF:Hid (mK s=(KU 0 0 L).map (·% 4294967296)):=hid (by rw[HFP.out,if_neg h4]);have hN4:N≤4:=by omega
  clear HFP h4;go_enter Tryz.func213,Tryz.ntmps213;go_wp2_with fail;refine HP.out.mono ?_;rintro e w1 ⟨g,c,rfl,hr,hb⟩;have HC:Hid (∀j (h:j < L.length),w1.cell? ⟨g,j,none⟩=some (.string (aA L[j]))):=hid (by
   obtain⟨_,h2⟩:=FU hr;intro j h;have:=h2 j (by rw[List.length_map];exact h);rw[this];simp)
  have HB:=hid hb;clear hr hb hfl;go_wp2_with fail;go_loopw [5,17] (fun a i wr=>∃sum k:Nat,a= .int .i64 (sum:Int)∧i= .int .i64 (k:Int)∧k≤N∧sum≤100000000000*(k+1)∧Hid ((KU 0 0 L=KU k sum (L.drop k)∧k < N)∨(KU 0 0 L=some sum∧k=N))∧w1=wr) (fun _ i _=>N - (intOf i).toNat);case atStart=>exact⟨0,0,rfl,rfl,Nat.zero_le _,by omega,hid (.inl ⟨rfl,by omega⟩),rfl⟩
  case round=>
   obtain⟨sum,k,rfl,rfl,hk,akA,hF,rfl⟩:=hrel;by_cases bC:k < N
   ·have mE:k < L.length:=by rw[HN.out];exact bC
    have aW:=HC.out k mE;have aT:=(hF.out.resolve_right (fun h=>by omega)).1;rw[List.drop_eq_getElem_cons mE] at aT;have FW:=HPL.out L[k] (List.getElem_mem mE);obtain⟨p,hp⟩:∃p,p=L[k]'mE:=⟨_,rfl⟩;rw[←hp] at aT FW aW;have HM:=hid (fun w=>FT p FW w);clear hp hF FW;by_cases A5:k+1=N
    ·have hdr:L.drop (k+1)=[]:=List.drop_eq_nil_of_le (by rw[HN.out];omega);rw[hdr,Ze] at aT;have hd:((k:Int)==(N:Int) - 1)=true:=by rw[beq_iff_eq];omega
     have HKN:=hid A5;cases hn:wX p with
     |none=>rw[hn] at HM aT;have sI:Hid (mK s=none):=hid (by rw[HF.out,aT];rfl);clear aT hn hdr A5;simp only[vG] at HM;go_wp2_with fail;refine(HM.out _).mono ?_;rintro e w' ⟨rfl,rfl⟩;go_wp2_with fail;go_ret2;exact⟨hY (by rw[sI.out];rfl),HB.out⟩
     |some n=>
      have Ed:=Uw hn;rw[hn] at HM aT;simp only[vG] at HM aT;clear hn hdr A5;have hkc:k=0∨k=1∨k=2∨k=3:=by omega
      rcases hkc with rfl|rfl|rfl|rfl
      ·by_cases hb:4294967296≤n
       ·have sI:Hid (mK s=none):=hid (by rw[HF.out,aT,if_pos (by show 4294967296≤n;exact hb)];rfl);have hbI:decide ((4294967296:Int)≤(n:Int))=true:=by simp;omega
        clear aT hb;go_wp2_with fail;refine(HM.out _).mono ?_;rintro e w' ⟨rfl,rfl⟩;go_upto_region 12 with(fail)
        (try simp only[List.append_eq,List.cons_append,List.nil_append])
        apply wp_region_lit;iterate 4 (refine bF rfl ?_;intro K hK;go_simp;refine hK _ _ ?_;clear hK K)
        refine oI rfl .shl 3 3 _ _ rfl (.int .i64 4294967296) (by kernel_rfl) (by kernel_rfl) ?_;simp only[pq]
        (refine bF rfl ?_;intro K hK;go_simp;refine hK _ _ ?_;clear hK K)
        apply wpList_nil;go_wp2_with fail;go_ret2;exact⟨hY (by rw[sI.out];rfl),HB.out⟩
       ·have sI:Hid (KU 0 0 L=some (sum+n)∧0+1=N):=hid ⟨by rw[aT,if_neg (by show¬4294967296≤n;exact hb)],HKN.out⟩;have hbI:decide ((4294967296:Int)≤(n:Int))=false:=by simp;omega
        clear aT hb;go_wp2_with fail;refine(HM.out _).mono ?_;rintro e w' ⟨rfl,rfl⟩;go_upto_region 12 with(fail)
        (try simp only[List.append_eq,List.cons_append,List.nil_append])
        apply wp_region_lit;iterate 4 (refine bF rfl ?_;intro K hK;go_simp;refine hK _ _ ?_;clear hK K)
        refine oI rfl .shl 3 3 _ _ rfl (.int .i64 4294967296) (by kernel_rfl) (by kernel_rfl) ?_;simp only[pq]
        (refine bF rfl ?_;intro K hK;go_simp;refine hK _ _ ?_;clear hK K)
        apply wpList_nil;go_wp2_with fail;go_roundw;case rel=>exact⟨sum+n,0+1,by go_num,rfl,by omega,by omega,hid (.inr sI.out),trivial⟩
        case measure=>simp[intOf];omega
      ·by_cases hb:16777216≤n
       ·have sI:Hid (mK s=none):=hid (by rw[HF.out,aT,if_pos (by show 16777216≤n;exact hb)];rfl);have hbI:decide ((16777216:Int)≤(n:Int))=true:=by simp;omega
        clear aT hb;go_wp2_with fail;refine(HM.out _).mono ?_;rintro e w' ⟨rfl,rfl⟩;go_upto_region 12 with(fail)
        (try simp only[List.append_eq,List.cons_append,List.nil_append])
        apply wp_region_lit;iterate 4 (refine bF rfl ?_;intro K hK;go_simp;refine hK _ _ ?_;clear hK K)
        refine oI rfl .shl 3 3 _ _ rfl (.int .i64 16777216) (by kernel_rfl) (by kernel_rfl) ?_;simp only[pq]
        (refine bF rfl ?_;intro K hK;go_simp;refine hK _ _ ?_;clear hK K)
        apply wpList_nil;go_wp2_with fail;go_ret2;exact⟨hY (by rw[sI.out];rfl),HB.out⟩
       ·have sI:Hid (KU 0 0 L=some (sum+n)∧1+1=N):=hid ⟨by rw[aT,if_neg (by show¬16777216≤n;exact hb)],HKN.out⟩;have hbI:decide ((16777216:Int)≤(n:Int))=false:=by simp;omega
        clear aT hb;go_wp2_with fail;refine(HM.out _).mono ?_;rintro e w' ⟨rfl,rfl⟩;go_upto_region 12 with(fail)
        (try simp only[List.append_eq,List.cons_append,List.nil_append])
        apply wp_region_lit;iterate 4 (refine bF rfl ?_;intro K hK;go_simp;refine hK _ _ ?_;clear hK K)
        refine oI rfl .shl 3 3 _ _ rfl (.int .i64 16777216) (by kernel_rfl) (by kernel_rfl) ?_;simp only[pq]
        (refine bF rfl ?_;intro K hK;go_simp;refine hK _ _ ?_;clear hK K)
        apply wpList_nil;go_wp2_with fail;go_roundw;case rel=>exact⟨sum+n,1+1,by go_num,rfl,by omega,by omega,hid (.inr sI.out),trivial⟩
        case measure=>simp[intOf];omega
      ·by_cases hb:65536≤n
       ·have sI:Hid (mK s=none):=hid (by rw[HF.out,aT,if_pos (by show 65536≤n;exact hb)];rfl);have hbI:decide ((65536:Int)≤(n:Int))=true:=by simp;omega
        clear aT hb;go_wp2_with fail;refine(HM.out _).mono ?_;rintro e w' ⟨rfl,rfl⟩;go_upto_region 12 with(fail)
        (try simp only[List.append_eq,List.cons_append,List.nil_append])
        apply wp_region_lit;iterate 4 (refine bF rfl ?_;intro K hK;go_simp;refine hK _ _ ?_;clear hK K)
        refine oI rfl .shl 3 3 _ _ rfl (.int .i64 65536) (by kernel_rfl) (by kernel_rfl) ?_;simp only[pq]
        (refine bF rfl ?_;intro K hK;go_simp;refine hK _ _ ?_;clear hK K)
        apply wpList_nil;go_wp2_with fail;go_ret2;exact⟨hY (by rw[sI.out];rfl),HB.out⟩
       ·have sI:Hid (KU 0 0 L=some (sum+n)∧2+1=N):=hid ⟨by rw[aT,if_neg (by show¬65536≤n;exact hb)],HKN.out⟩;have hbI:decide ((65536:Int)≤(n:Int))=false:=by simp;omega
        clear aT hb;go_wp2_with fail;refine(HM.out _).mono ?_;rintro e w' ⟨rfl,rfl⟩;go_upto_region 12 with(fail)
        (try simp only[List.append_eq,List.cons_append,List.nil_append])
        apply wp_region_lit;iterate 4 (refine bF rfl ?_;intro K hK;go_simp;refine hK _ _ ?_;clear hK K)
        refine oI rfl .shl 3 3 _ _ rfl (.int .i64 65536) (by kernel_rfl) (by kernel_rfl) ?_;simp only[pq]
        (refine bF rfl ?_;intro K hK;go_simp;refine hK _ _ ?_;clear hK K)
        apply wpList_nil;go_wp2_with fail;go_roundw;case rel=>exact⟨sum+n,2+1,by go_num,rfl,by omega,by omega,hid (.inr sI.out),trivial⟩
        case measure=>simp[intOf];omega
      ·by_cases hb:256≤n;·have sI:Hid (mK s=none):=hid (by rw[HF.out,aT,if_pos (by show 256≤n;exact hb)];rfl);clear aT;go_wp2_with fail;refine(HM.out _).mono ?_;rintro e w' ⟨rfl,rfl⟩;go_wp2_with fail;go_ret2;exact⟨hY (by rw[sI.out];rfl),HB.out⟩
       ·have sI:Hid (KU 0 0 L=some (sum+n)∧3+1=N):=hid ⟨by rw[aT,if_neg (by show¬256≤n;exact hb)],HKN.out⟩;clear aT;go_wp2_with fail;refine(HM.out _).mono ?_;rintro e w' ⟨rfl,rfl⟩;go_wp2_with fail;go_roundw;case rel=>exact⟨sum+n,3+1,by go_num,rfl,by omega,by omega,hid (.inr sI.out),trivial⟩
        case measure=>simp[intOf];omega
    ·have Dr:k+1 < L.length:=by rw[HN.out];omega
     rw[List.drop_eq_getElem_cons Dr,Zf,←List.drop_eq_getElem_cons Dr] at aT;have hd:((k:Int)==(N:Int) - 1)=false:=by rw[beq_eq_false_iff_ne];omega
     cases hn:wX p with
     |none=>rw[hn] at HM aT;have sI:Hid (mK s=none):=hid (by rw[HF.out,aT];rfl);clear aT hn A5 Dr;simp only[vG] at HM;go_wp2_with fail;refine(HM.out _).mono ?_;rintro e w' ⟨rfl,rfl⟩;go_wp2_with fail;go_ret2;exact⟨hY (by rw[sI.out];rfl),HB.out⟩
     |some n=>
      have Ed:=Uw hn;rw[hn] at HM aT;simp only[vG] at HM aT;have ahD:k+1 < N:=by omega
      clear hn A5 Dr;have hkc:k=0∨k=1∨k=2:=by omega
      rcases hkc with rfl|rfl|rfl
      ·by_cases hb:255 < n;·have sI:Hid (mK s=none):=hid (by rw[HF.out,aT,if_pos hb];rfl);clear aT;go_wp2_with fail;refine(HM.out _).mono ?_;rintro e w' ⟨rfl,rfl⟩;go_wp2_with fail;go_ret2;exact⟨hY (by rw[sI.out];rfl),HB.out⟩
       ·have sI:Hid (KU 0 0 L=KU (0+1) (sum+n*16777216) (L.drop (0+1))):=hid (by rw[aT,if_neg hb]);clear aT;go_wp2_with fail;refine(HM.out _).mono ?_;rintro e w' ⟨rfl,rfl⟩;go_wp2_with fail;go_roundw;case rel=>exact⟨sum+n*16777216,0+1,by go_num,rfl,by omega,by omega,hid (.inl ⟨sI.out,ahD⟩),trivial⟩
        case measure=>simp[intOf];omega
      ·by_cases hb:255 < n;·have sI:Hid (mK s=none):=hid (by rw[HF.out,aT,if_pos hb];rfl);clear aT;go_wp2_with fail;refine(HM.out _).mono ?_;rintro e w' ⟨rfl,rfl⟩;go_wp2_with fail;go_ret2;exact⟨hY (by rw[sI.out];rfl),HB.out⟩
       ·have sI:Hid (KU 0 0 L=KU (1+1) (sum+n*65536) (L.drop (1+1))):=hid (by rw[aT,if_neg hb]);clear aT;go_wp2_with fail;refine(HM.out _).mono ?_;rintro e w' ⟨rfl,rfl⟩;go_wp2_with fail;go_roundw;case rel=>exact⟨sum+n*65536,1+1,by go_num,rfl,by omega,by omega,hid (.inl ⟨sI.out,ahD⟩),trivial⟩
        case measure=>simp[intOf];omega
      ·by_cases hb:255 < n;·have sI:Hid (mK s=none):=hid (by rw[HF.out,aT,if_pos hb];rfl);clear aT;go_wp2_with fail;refine(HM.out _).mono ?_;rintro e w' ⟨rfl,rfl⟩;go_wp2_with fail;go_ret2;exact⟨hY (by rw[sI.out];rfl),HB.out⟩
       ·have sI:Hid (KU 0 0 L=KU (2+1) (sum+n*256) (L.drop (2+1))):=hid (by rw[aT,if_neg hb]);clear aT;go_wp2_with fail;refine(HM.out _).mono ?_;rintro e w' ⟨rfl,rfl⟩;go_wp2_with fail;go_roundw;case rel=>exact⟨sum+n*256,2+1,by go_num,rfl,by omega,by omega,hid (.inl ⟨sI.out,ahD⟩),trivial⟩
        case measure=>simp[intOf];omega
   ·obtain rfl:k=N:=by omega
    have aT:=(hF.out.resolve_left (fun h=>bC h.2)).1;have sI:Hid (mK s=some (sum % 4294967296)):=hid (by rw[HF.out,aT];rfl);have Wh:=Zg sum;clear hF aT;go_wp2_with fail;go_ret2;exact⟨hY (by rw[sI.out];rfl),HB.out⟩
theorem EW (v:Value) (l:List UInt8) (u:Nat) (w:World) (base:Nat) (hW:Laid w) (hv:fC w base v l) (hb:base≤w.heap.size) (hl:l.length≤1000000000) (hu:u < 18446744073709551616):
 Calls Tryz.prog 127 #[v,.int .u64 (u:Int),.int .i64 10] w fun e w'=>∃v',e= .returned v'∧fC w' base v' (l++Lib.decDigits u)∧Below base w w':=by
 refine(Tryz.internal_strconv_AppendUint_10 base l.length u hu v (l.map iP) w hv hb (by omega) hW.pow).mono ?_;rintro e w' ⟨v',rfl,h1,h2,_⟩;refine⟨v',rfl,?_,h2⟩;unfold fC;rw[List.length_append,List.map_append];exact h1
theorem Bq (v:Value) (l:List UInt8) (u:Nat) (w:World) (base:Nat) (hW:Laid w) (hv:fC w base v l) (hb:base≤w.heap.size) (hl:l.length≤1000000000) (hu:u < 18446744073709551616):
 Calls Tryz.prog 87 #[v,.int .u64 (u:Int),.int .i64 10] w fun e w'=>∃v',e= .returned v'∧fC w' base v' (l++Lib.decDigits u)∧Below base w w':=by
 have H:=hid (EW v l u w base hW hv hb hl hu);clear hW hv;go_enter Tryz.func87,Tryz.ntmps87;go_wp2_with fail;refine H.out.mono ?_;rintro e w' ⟨v',rfl,h1,h2⟩;have H1:=hid h1;clear h1;go_wp2_with fail;go_ret;exact⟨_,rfl,H1.out,h2⟩
theorem MH (n d:Nat) (hn:n < 4294967296) (x:Int) (hx:x=((n / d:Nat):Int)):bits .and .u32 x 255=((n / d % 256:Nat):Int):=by subst hx;have h1:n / d < 4294967296:=Nat.lt_of_le_of_lt (Nat.div_le_self _ _) hn;have h2:=u32_and_nat (n / d) 255 h1 (by omega);have h3:n / d&&&255=n / d % 256:=Nat.and_two_pow_sub_one_eq_mod (n / d) 8;rw[h3] at h2;exact h2
theorem Hc (u:Nat) (h:u < 256):(Lib.decDigits u).length≤3:=by
 have h1:∀i:Fin 256,(Lib.decDigits i.val).length≤3:=by decide+kernel
 exact h1 ⟨u,h⟩
theorem Sz (n:Nat) (hn:n < 4294967296) (w:World) (hW:Laid w):Calls Tryz.prog 50 #[.int .u32 (n:Int)] w fun e w'=>e= .returned (.string (aA (AQ n)))∧Below w.heap.size w w':=by
 have HW:=hid hW;have b1:=MH n 16777216 hn ((n:Int) / 16777216) rfl;have b2:=MH n 65536 hn ((n:Int) / 65536) rfl;have b3:=MH n 256 hn ((n:Int) / 256) rfl;have b4:=MH n 1 hn (n:Int) (by rw[Nat.div_one]);have l1:n / 16777216 % 256 < 256:=Nat.mod_lt _ (by decide);have l2:n / 65536 % 256 < 256:=Nat.mod_lt _ (by decide);have l3:n / 256 % 256 < 256:=Nat.mod_lt _ (by decide);have l4:n / 1 % 256 < 256:=Nat.mod_lt _ (by decide);have HF:Hid (AQ n=Lib.decDigits (n / 16777216 % 256)++[46]++(Lib.decDigits (n / 65536 % 256)++[46]++(Lib.decDigits (n / 256 % 256)++[46]++Lib.decDigits (n / 1 % 256)))):=hid (by rw[Nat.div_one];rfl);generalize n / 16777216 % 256=c1 at*;generalize n / 65536 % 256=c2 at*;generalize n / 256 % 256=c3 at*;generalize n / 1 % 256=c4 at*;have d1:=hid (Hc c1 l1);have d2:=hid (Hc c2 l2);have d3:=hid (Hc c3 l3);have d4:=hid (Hc c4 l4);clear hW;go_enter Tryz.func50,Tryz.ntmps50;go_wp2_with fail;go_loopw [3,4] (fun a i wr=>∃out:List UInt8,fC wr w.heap.size a out∧Hid (Below w.heap.size w wr)∧out.length≤1000∧((i= .int .i64 24∧Hid (out=[]))∨(i= .int .i64 16∧Hid (out=Lib.decDigits c1++[46]))∨(i= .int .i64 8∧Hid (out=Lib.decDigits c1++[46]++(Lib.decDigits c2++[46])))∨(i= .int .i64 0∧Hid (out=Lib.decDigits c1++[46]++(Lib.decDigits c2++[46]++(Lib.decDigits c3++[46]))))∨(i= .int .i64 (-8)∧Hid (out=AQ n)))) (fun _ i _=>(intOf i+8).toNat);case atStart=>exact⟨[],fC.nil _ _,hid (Below.refl _ _),by simp,.inl ⟨rfl,hid rfl⟩⟩
 case round=>
  obtain⟨out,bE,dR,hol,dO⟩:=hrel;have rC:=dR.out.size;have HAP:=hid (fun u (hu:u < 256)=>Bq _ out u wr w.heap.size (HW.out.step dR.out) bE rC (by omega) (by omega));have Mt:=hid bE;clear bE;rcases dO with⟨rfl,hF⟩|⟨rfl,hF⟩|⟨rfl,hF⟩|⟨rfl,hF⟩|⟨rfl,hF⟩
  ·have SA:(out++Lib.decDigits c1).length≤100:=by have e1:=d1.out;have e2:=d2.out;have e3:=d3.out;rw[hF.out];simp;omega
   go_wp2_with fail;refine(HAP.out c1 l1).mono ?_;rintro e w2 ⟨v2,rfl,oV,dE⟩;have cK:=hid (dR.out.trans dE);have abX:=cK.out.size;clear dE;go_wp2_with (at_builtin;refine cJ w2 w.heap.size _ (out++Lib.decDigits c1) 46 rfl rfl _ _ rfl rfl oV rfl (by omega) (by omega) ?_;intro v3 w3 FX cF);go_roundw;case rel=>exact⟨out++Lib.decDigits c1++[46],FX,hid (cK.out.trans cF),by simp at SA⊢;omega,.inr (.inl ⟨rfl,hid (by rw[hF.out];rfl)⟩)⟩
   case measure=>simp[intOf]
  ·have SA:(out++Lib.decDigits c2).length≤100:=by have e1:=d1.out;have e2:=d2.out;have e3:=d3.out;rw[hF.out];simp;omega
   go_wp2_with fail;refine(HAP.out c2 l2).mono ?_;rintro e w2 ⟨v2,rfl,oV,dE⟩;have cK:=hid (dR.out.trans dE);have abX:=cK.out.size;clear dE;go_wp2_with (at_builtin;refine cJ w2 w.heap.size _ (out++Lib.decDigits c2) 46 rfl rfl _ _ rfl rfl oV rfl (by omega) (by omega) ?_;intro v3 w3 FX cF);go_roundw;case rel=>exact⟨out++Lib.decDigits c2++[46],FX,hid (cK.out.trans cF),by simp at SA⊢;omega,.inr (.inr (.inl ⟨rfl,hid (by rw[hF.out];simp)⟩))⟩
   case measure=>simp[intOf]
  ·have SA:(out++Lib.decDigits c3).length≤100:=by have e1:=d1.out;have e2:=d2.out;have e3:=d3.out;rw[hF.out];simp;omega
   go_wp2_with fail;refine(HAP.out c3 l3).mono ?_;rintro e w2 ⟨v2,rfl,oV,dE⟩;have cK:=hid (dR.out.trans dE);have abX:=cK.out.size;clear dE;go_wp2_with (at_builtin;refine cJ w2 w.heap.size _ (out++Lib.decDigits c3) 46 rfl rfl _ _ rfl rfl oV rfl (by omega) (by omega) ?_;intro v3 w3 FX cF);go_roundw;case rel=>exact⟨out++Lib.decDigits c3++[46],FX,hid (cK.out.trans cF),by simp at SA⊢;omega,.inr (.inr (.inr (.inl ⟨rfl,hid (by rw[hF.out];simp)⟩)))⟩
   case measure=>simp[intOf]
  ·go_wp2_with fail;refine(HAP.out c4 l4).mono ?_;rintro e w2 ⟨v2,rfl,oV,dE⟩;have cK:=hid (dR.out.trans dE);have HO2:=hid oV;have SA:(out++Lib.decDigits c4).length≤1000:=by have e1:=d1.out;have e2:=d2.out;have e3:=d3.out;have e4:=d4.out;rw[hF.out];simp;omega
   clear dE oV;go_wp2_with fail;go_roundw;case rel=>exact⟨out++Lib.decDigits c4,HO2.out,cK,SA,.inr (.inr (.inr (.inr ⟨rfl,hid (by rw[HF.out,hF.out];simp)⟩)))⟩
   case measure=>simp[intOf]
  ·have bE:=Mt.out;rw[hF.out] at bE;have tH:=oE bE;clear bE;go_wp2_with fail;go_ret;exact⟨rfl,dR.out⟩
end Go.Proofs.YtmgmclkplepapaaGreatDoor
