/- Part of the proof of TopBoundsUptoCardSaid. Conditions: none beyond the statement. -/
import Derived.Test.YtmgmclkplepapaaGreatDoorPt14
import Derived.Test.YtmgmclkplepapaaGreatDoorPt21
set_option linter.all false
set_option maxRecDepth 100000
set_option maxHeartbeats 64000000
namespace Go.Proofs.YtmgmclkplepapaaGreatDoor
open Go.RowKit
theorem jA (s p:List UInt8) (h:p.isPrefixOf s=true) (w:World):Calls Tryz.prog 118 #[.string (aA s),.string (aA p)] w fun e w'=>e= .returned (.tuple #[.string (aA (s.drop p.length)),.bool true])∧w=w':=by refine(Tryz.strings_CutPrefix (aA s) (aA p) w).mono ?_;rintro e w' ⟨rfl,rfl⟩;refine⟨?_,rfl⟩;rw[aC,aC];have hh:Lib.hasPrefix s p=true:=h;unfold Lib.trimPrefix;rw[hh];rfl
theorem jY (s p:List UInt8) (h:p.isPrefixOf s=false) (w:World):Calls Tryz.prog 118 #[.string (aA s),.string (aA p)] w fun e w'=>e= .returned (.tuple #[.string (aA s),.bool false])∧w=w':=by refine(Tryz.strings_CutPrefix (aA s) (aA p) w).mono ?_;rintro e w' ⟨rfl,rfl⟩;refine⟨?_,rfl⟩;rw[aC,aC];have hh:Lib.hasPrefix s p=false:=h;unfold Lib.trimPrefix;rw[hh];rfl
theorem Bn (s p:List UInt8) (w:World):Calls Tryz.prog 105 #[.string (aA s),.string (aA p)] w fun e w'=>e= .returned (.string (aA (if p.isPrefixOf s then s.drop p.length else s)))∧w=w':=by refine(Tryz.strings_TrimPrefix (aA s) (aA p) w).mono ?_;rintro e w' ⟨rfl,rfl⟩;refine⟨?_,rfl⟩;rw[aC,aC];rfl
theorem vF {q:UInt8} {s:List UInt8} (h:q∈s):∃a r,s=a++q::r∧q∉a:=List.eq_append_cons_of_mem h
theorem BV {q:UInt8} {a r:List UInt8} (h:q∉a):(a++q::r).takeWhile (· !=q)=a∧(a++q::r).dropWhile (· !=q)=q::r:=by
 induction a with
 |nil=>simp
 |cons c t ih=>have hc:c≠q:=fun e=>h (by rw[e];simp);obtain⟨h1,h2⟩:=ih (fun e=>h (by simp[e]));simp[List.takeWhile_cons,List.dropWhile_cons,hc,h1,h2]
theorem Pf {q:UInt8} {a r:List UInt8} (h:q∉a):Lib.index (a++q::r) [q]=(a.length:Int):=by
 refine Lib.index_first (by simp) ?_ fun j hj=>?_;·unfold Lib.occAt;simp
 ·unfold Lib.occAt;rw[List.drop_append_of_le_length (by omega),List.drop_eq_getElem_cons hj];have:a[j]≠q:=fun e=>h (by rw[←e];exact List.getElem_mem hj);show(q==a[j]&&_)=false;rw[beq_eq_false_iff_ne.mpr (Ne.symm this)];rfl
theorem ET {q:UInt8} {s:List UInt8} (h:q∉s):Lib.index s [q]= -1:=by
 refine Lib.index_none fun j hj=>?_;unfold Lib.occAt;by_cases hl:j < s.length;·rw[List.drop_eq_getElem_cons hl];have:s[j]≠q:=fun e=>h (by rw[←e];exact List.getElem_mem hl);show(q==s[j]&&_)=false;rw[beq_eq_false_iff_ne.mpr (Ne.symm this)];rfl
 ·rw[List.drop_eq_nil_of_le (by omega)];simp
theorem acZ (q:UInt8) (s:List UInt8):Lib.cut s [q]=bM q s:=by
 unfold Lib.cut bM;by_cases h:q∈s;·obtain⟨a,r,rfl,ha⟩:=vF h;obtain⟨h1,h2⟩:=BV (r:=r) ha;rw[Pf ha,if_pos (by omega),if_pos (by simp),h1,h2];simp
 ·rw[ET h,if_neg (by omega),if_neg (by simpa using h)]
theorem oH (s:List UInt8) (q:UInt8) (hs:s.length≤4000000000) (w:World) (hW:Laid w):
 Calls Tryz.prog 53 #[.string (aA s),.string (aA [q])] w fun e w'=>e= .returned (.tuple #[.string (aA (bM q s).1),.string (aA (bM q s).2.1),.bool (bM q s).2.2])∧Below w.heap.size w w':=by
 obtain⟨m,hm⟩:=hW.max;refine(Tryz.strings_Cut (aA s) (aA [q]) m w (by rw[aD];omega) hm).mono ?_;rintro e w' ⟨rfl,n,rfl⟩;rw[aC,aC,acZ];exact⟨rfl,Bk _ _ _⟩
theorem Hb {q:UInt8} {a r:List UInt8} (h:q∉a):fZ q (a++q::r)=a::fZ q r:=by
 induction a with
 |nil=>simp[fZ]
 |cons c t ih=>have hc:c≠q:=fun e=>h (by rw[e];simp);have:=ih (fun e=>h (by simp[e]));rw[List.cons_append,fZ,if_neg hc,this]
theorem Bo {q:UInt8} {s:List UInt8} (h:q∉s):fZ q s=[s]:=by
 induction s with
 |nil=>rfl
 |cons c t ih=>have hc:c≠q:=fun e=>h (by rw[e];simp);rw[fZ,if_neg hc,ih (fun e=>h (by simp[e]))]
theorem V7 (q:UInt8):∀(n:Nat) (l:List UInt8),l.length≤n→Lib.splitB (aA [q]) 0 (Lib.countB (aA l) (aA [q])) (aA l)=(fZ q l).map aA∧Lib.countB (aA l) (aA [q])+1=(fZ q l).length:=by
 intro n;induction n with
 |zero=>
  intro l hl;have:l=[]:=List.length_eq_zero_iff.1 (by omega);subst this;have hx:Lib.indexB (aA []) (aA [q])= -1:=by unfold Lib.indexB;rw[aC,aC];exact ET (by simp)
  rw[Lib.countB_miss _ _ hx,Lib.splitB_zero];exact⟨rfl,rfl⟩
 |succ n ih=>
  intro l hl;by_cases h:q∈l
  ·obtain⟨a,r,rfl,ha⟩:=vF h;have hx:Lib.indexB (aA (a++q::r)) (aA [q])=(a.length:Int):=by unfold Lib.indexB;rw[aC,aC];exact Pf ha
   have hz:(aA [q]).size=1:=by rw[aD];rfl
   have lZ:(aA (a++q::r)).extract (a.length+(aA [q]).size) (aA (a++q::r)).size=aA r:=by rw[cX,hz,←List.drop_drop,List.drop_left];rfl
   obtain⟨i1,i2⟩:=ih r (by simp at hl;omega);rw[Lib.countB_hit _ _ a.length (by rw[hz];omega) hx,lZ,Nat.add_comm 1,Lib.splitB_hit _ _ _ _ a.length hx,lZ,i1,Hb ha];refine⟨?_,by simp;omega⟩;rw[List.map_cons,Nat.add_zero,jX,List.take_left]
  ·have hx:Lib.indexB (aA l) (aA [q])= -1:=by unfold Lib.indexB;rw[aC,aC];exact ET h
   rw[Lib.countB_miss _ _ hx,Lib.splitB_zero,Bo h];exact⟨rfl,rfl⟩
theorem IL (s:List UInt8) (q:UInt8) (hs:s.length≤4000000000) (w:World) (hW:Laid w):
 Calls Tryz.prog 218 #[.string (aA s),.string (aA [q])] w fun e w'=>e= .returned (.slice (some ⟨w.heap.size,0,none⟩) (fZ q s).length (fZ q s).length)∧w'=w.alloc (.cells (((fZ q s).map aA).map Value.string).toArray 9):=by
 obtain⟨m,hm⟩:=hW.max;obtain⟨h1,h2⟩:=V7 q s.length s (Nat.le_refl _);refine(Tryz.strings_Split (aA s) (aA [q]) m w (by rw[aD];omega) hm (by rw[aD];simp)).mono ?_;rintro e w' ⟨rfl,rfl⟩;rw[h1,h2];exact⟨rfl,rfl⟩
theorem join_one (q:UInt8):∀L:List (List UInt8),Lib.join L [q]=vT q L:=by
 intro L;induction L with
 |nil=>rfl
 |cons p r ih=>
  cases r with
  |nil=>simp[Lib.join,vT]
  |cons p2 r=>
   rw[vT,←ih];·simp[Lib.join,List.intercalate]
   ·simp
theorem V8 (v:Value) (L:List (List UInt8)) (q:UInt8) (w:World) (hv:bT w v (L.map aA)) (hN:L.length≤4000000000) (hlen:(vT q L).length≤4000000000):
 Calls Tryz.prog 220 #[v,.string (aA [q])] w fun e w'=>e= .returned (.string (aA (vT q L)))∧Below w.heap.size w w':=by
 have GG:(L.map aA).map (·.data.toList)=L:=by
  rw[List.map_map];conv=>rhs;rw[←List.map_id L]
  apply List.map_congr_left;intro a _;exact aC a
 rcases hv with⟨rfl,h⟩|⟨g,off,c,rfl,hc,aW⟩
 ·have hL:L=[]:=by simpa using h
  subst hL;refine(Tryz.strings_Join_none none 0 (aA [q]) w).mono ?_;rintro e w' ⟨rfl,rfl⟩;exact⟨rfl,Below.refl _ _⟩
 ·by_cases hL:L=[];·subst hL;refine(Tryz.strings_Join_none (some ⟨g,off,none⟩) c (aA [q]) w).mono ?_;rintro e w' ⟨rfl,rfl⟩;exact⟨rfl,Below.refl _ _⟩
  ·have h0:0 < (L.map aA).length:=by rw[List.length_map];exact List.length_pos_iff.mpr hL
   have hg:g < w.heap.size:=by
    have h1:=aW 0 h0;rcases Nat.lt_or_ge g w.heap.size with bC|Ao;·exact bC
    ·simp[World.cell?,Array.getElem?_eq_none Ao] at h1
   refine(Tryz.strings_Join g off c (L.map aA) (aA [q]) w (fun j x hx=>?_) hg (by rw[List.length_map];omega) hc (by rw[GG,aC,join_one];omega)).mono ?_;·obtain⟨hj,hx⟩:=List.getElem?_eq_some_iff.1 hx;rw[aW j hj,hx]
   ·rintro e w' ⟨rfl,hb⟩;rw[GG,aC,join_one];exact⟨rfl,hb⟩
def vQ (o:Option Nat):Int:=match o with
 |some d=>(d:Int)
 |none=> -1
theorem agU (c:UInt8) (base:Nat):digit c (base:Int)=vQ (nJ c base):=by
 unfold digit Ic nJ vQ;have h:=c.toNat_lt;by_cases h1:48≤c.toNat∧c.toNat≤57
 ·simp only[if_pos h1,if_pos (show 48≤(c.toNat:Int)∧(c.toNat:Int)≤57 by omega)];by_cases h2:base≤c.toNat - 48;·simp only[if_pos h2];rw[if_pos (by omega)]
  ·simp only[if_neg h2];rw[if_neg (by omega)];omega
 ·simp only[if_neg h1,if_neg (show¬(48≤(c.toNat:Int)∧(c.toNat:Int)≤57) by omega)];by_cases h3:97≤c.toNat∧c.toNat≤122
  ·simp only[if_pos h3,if_pos (show 97≤(c.toNat:Int)∧(c.toNat:Int)≤122 by omega)];by_cases h2:base≤c.toNat - 87;·simp only[if_pos h2];rw[if_pos (by omega)]
   ·simp only[if_neg h2];rw[if_neg (by omega)];omega
  ·simp only[if_neg h3,if_neg (show¬(97≤(c.toNat:Int)∧(c.toNat:Int)≤122) by omega)];by_cases h4:65≤c.toNat∧c.toNat≤90
   ·simp only[if_pos h4,if_pos (show 65≤(c.toNat:Int)∧(c.toNat:Int)≤90 by omega)];by_cases h2:base≤c.toNat - 55;·simp only[if_pos h2];rw[if_pos (by omega)]
    ·simp only[if_neg h2];rw[if_neg (by omega)];omega
   ·simp only[if_neg h4,if_neg (show¬(65≤(c.toNat:Int)∧(c.toNat:Int)≤90) by omega)]
    (repeat' split)<;>first|rfl|omega
theorem mH (c:UInt8) (base:Nat) (h1:1≤base) (h2:base≤36) (B:Int) (hB:B=(base:Int)) (w:World):Calls Tryz.prog 76 #[.int .u8 (c.toNat:Int),.int .i64 B] w fun e w'=>e= .returned (.int .i64 (vQ (nJ c base)))∧w=w':=by subst hB;have:=kW c (base:Int) (by omega) (by omega) w;rw[agU] at this;exact this
theorem zX {c:UInt8} {base d:Nat} (h:nJ c base=some d):d < base:=by
 unfold nJ at h;simp only at h;split at h
 ·split at h;·cases h
  ·cases h;omega
 ·cases h
def vG (o:Option Nat):Value:=match o with
 |some d=> .tuple #[.int .i64 (d:Int),.bool true]
 |none=> .tuple #[.int .i64 0,.bool false]
theorem hY {a b:Value} (h:a=b):Ending.returned a= .returned b:=by rw[h]
theorem Lg (base n:Nat):Dg base n []=some n:=rfl
theorem IM (base n:Nat) (c:UInt8) (t:List UInt8):Dg base n (c::t)=match nJ c base with
 |none=>none
 |some d=>Dg base (min (n*base+d) 4294967296) t:=rfl
theorem mN {s:List UInt8} (h:s≠[]):(aA s).toList.isEmpty=false:=by rw[cC];cases s with|nil=>exact absurd rfl h|cons a b=>rfl
theorem wI (s:List UInt8) (base:Nat) (h1:1≤base) (h2:base≤36) (B:Int) (hB:B=(base:Int)) (hs:s.length≤1000000000) (w:World):Calls Tryz.prog 222 #[.string (aA s),.int .i64 B] w fun e w'=>e= .returned (vG (uB base s))∧w=w':=by
 subst hB;by_cases h0:s=[]
 ·subst h0;have he:(aA []).toList.isEmpty=true:=by rw[cC];rfl
  go_enter Tryz.func222,Tryz.ntmps222;go_wp2_with fail;go_ret2;exact⟨rfl,rfl⟩
 ·have he:=mN h0;have HR:Hid (uB base s=Dg base 0 s):=hid (by unfold uB;rw[if_neg h0]);have HZ:=hid (aD s);clear h0;go_enter Tryz.func222,Tryz.ntmps222;go_wp2_with fail;go_loopw [6,13] (fun a i wr=>∃n k:Nat,a= .int .i64 (n:Int)∧i= .int .i64 (k:Int)∧k≤s.length∧n≤4294967296∧Hid (Dg base 0 s=Dg base n (s.drop k))∧w=wr) (fun _ i _=>s.length - (intOf i).toNat);case atStart=>exact⟨0,0,rfl,rfl,Nat.zero_le _,by omega,hid rfl,rfl⟩
  case round=>
   obtain⟨n,k,rfl,rfl,hk,hn,hF,rfl⟩:=hrel;by_cases bC:k < s.length
   ·have jZ:k < (aA s).size:=by rw[HZ.out];exact bC
    obtain⟨c,hd,hg⟩:=iN bC;have hc:=hg jZ;have iF:c.toNat < 256:=c.toNat_lt;have aT:=hF.out;rw[hd,IM] at aT;clear hd hg hF;have HC:=hid (fun w=>mH c base h1 h2 _ rfl w);cases DJ:nJ c base with
    |none=>rw[DJ] at aT HC;have HF:Hid (uB base s=none):=hid (by rw[HR.out,aT]);simp only[vQ] at HC;clear aT DJ;go_wp2_with fail;refine(HC.out _).mono ?_;rintro e w' ⟨rfl,rfl⟩;go_wp2_with fail;go_ret2;exact⟨hY (by rw[HF.out];rfl),rfl⟩
    |some d=>
     have CL:=zX DJ;rw[DJ] at aT HC;simp only[vQ] at HC aT;have HF:=hid aT;have hmul:n*base≤4294967296*36:=Nat.mul_le_mul hn h2;have hm0:0≤(n:Int)*(base:Int):=by rw[←Int.natCast_mul];omega
     have VE:(n:Int)*(base:Int)≤4294967296*36:=by rw[←Int.natCast_mul];omega
     have gW:((n*base:Nat):Int)=(n:Int)*(base:Int):=Int.natCast_mul _ _;have HCA:=hid gW;clear aT DJ hmul gW;go_wp2_with fail;refine(HC.out _).mono ?_;rintro e w' ⟨rfl,rfl⟩;go_wp2_with fail;go_roundw;case rel=>exact⟨min (n*base+d) 4294967296,k+1,by have:=HCA.out;congr 1;omega,by go_num,by omega,Nat.min_le_right _ _,HF,trivial⟩
     case measure=>simp[intOf];omega
   ·obtain rfl:k=s.length:=by omega
    have aT:=hF.out;rw[List.drop_length,Lg] at aT;have HF:=hid aT;have Bd:=HZ.out;clear hF aT HZ;go_wp2_with fail;go_ret2;exact⟨hY (by rw[HR.out,HF.out];rfl),rfl⟩
theorem Pg (c:UInt8):mY c=Di c:=by
 have:∀i:Fin 256,mY (UInt8.ofNat i.val)=Di (UInt8.ofNat i.val):=by decide+kernel
 have h:=this ⟨c.toNat,c.toNat_lt⟩;simpa using h
theorem adA (c:UInt8):(nJ c 10).isSome=kL c:=by
 have:∀i:Fin 256,(nJ (UInt8.ofNat i.val) 10).isSome=kL (UInt8.ofNat i.val):=by decide+kernel
 have h:=this ⟨c.toNat,c.toNat_lt⟩;simpa using h
theorem Uv (c:UInt8):decide (vQ (nJ c 10) < 0)= !kL c:=by
 rw[←adA];cases h:nJ c 10 with
 |none=>rfl
 |some d=>show decide ((d:Int) < 0)=false;simp only[decide_eq_false_iff_not];omega
theorem Bp (c:UInt8) (n:Nat) (hn:n < 256):((c.toNat:Int)!=(n:Int))= !(c==UInt8.ofNat n):=by rw[bne,lU c n hn]
theorem zY (c:UInt8) (w:World):Calls Tryz.prog 91 #[.int .u8 (c.toNat:Int)] w fun e w'=>e= .returned (.bool (Di c))∧w=w':=by refine(zI c w).mono ?_;rintro e w' ⟨h1,h2⟩;rw[Pg] at h1;exact⟨h1,by first|exact h2|exact h2.symm⟩
theorem FO (l:List UInt8) (w:World) (hl:l.length≤1000000000):Calls Tryz.prog 30 #[.string (aA l)] w fun e w'=>e= .returned (.string (aA (qI l)))∧Below w.heap.size w w':=by have H:=hid (RI l w (by omega));have hle:=sP On l;have H2:=hid (Oy (cE On l) w (by omega));have HE:Hid (lO (cE On l)=qI l):=hid rfl;clear hle;generalize cE On l=m at*;go_enter Tryz.func30,Tryz.ntmps30;go_wp2_with fail;refine(H.out).mono ?_;rintro e w' ⟨rfl,rfl⟩;go_wp2_with fail;refine H2.out.mono ?_;rintro e w' ⟨rfl,hb⟩;go_wp2_with fail;go_ret;exact⟨by rw[←HE.out];rfl,hb⟩
def sH (c:UInt8):Bool:=Di c||kL c||c==43||c==45||c==46
theorem Y1 {f:UInt8→Bool} {l:List UInt8} {k:Nat} (h:k < l.length):(l.drop k).all f=(f (l[k]'h)&&(l.drop (k+1)).all f):=by rw[List.drop_eq_getElem_cons h,List.all_cons]
theorem Ph (l:List UInt8) (w:World) (hl:l.length≤1000000000):Calls Tryz.prog 54 #[.string (aA l)] w fun e w'=>e= .returned (.bool (uC l))∧w=w':=by
 cases l with
 |nil=>
  have hz:((aA []).toList==[])=true:=by rw[ByteArray.toList_eq,aC];rfl
  have qL:(aA []).toList.isEmpty=true:=by rw[ByteArray.toList_eq,aC];rfl
  go_enter Tryz.func54,Tryz.ntmps54;go_wp2_with fail;go_ret;exact⟨rfl,rfl⟩
 |cons d t=>
  obtain⟨eG,rL,hk,hg,he⟩:=wG t d;have GF:=mN (s:=d::t) (by simp);have HL:=hid (zY d);have jB:Hid (uC (d::t)=(Di d&&((d::t).drop 1).all sH)):=hid rfl;have HZ:=hid (aD (d::t));have C9:1≤(d::t).length:=by simp
  cases hd:Di d with
  |false=>rw[hd] at HL;have HF:Hid (uC (d::t)=false):=hid (by rw[jB.out,hd];rfl);clear he hd jB;go_enter Tryz.func54,Tryz.ntmps54;go_wp2_with fail;refine(HL.out _).mono ?_;rintro e w' ⟨rfl,rfl⟩;go_wp2_with fail;go_ret;exact⟨aZ (by rw[HF.out]),rfl⟩
  |true=>
   rw[hd] at HL;have pJ:Hid (uC (d::t)=((d::t).drop 1).all sH):=hid (by rw[jB.out,hd];rfl);clear he hd jB;generalize d::t=s at*;go_enter Tryz.func54,Tryz.ntmps54;go_wp2_with fail;refine(HL.out _).mono ?_;rintro e w' ⟨rfl,rfl⟩;go_wp2_with fail;clear hg eG GF hk rL;go_loopw [3] (fun i wr=>∃k:Nat,i= .int .i64 (k:Int)∧1≤k∧k≤s.length∧Hid (uC s=(s.drop k).all sH)∧w=wr) (fun i _=>s.length - (intOf i).toNat);case atStart=>exact⟨1,rfl,Nat.le_refl _,C9,pJ,rfl⟩
   case round=>
    obtain⟨k,rfl,Dr,hk,hF,rfl⟩:=hrel;by_cases bC:k < s.length
    ·have jZ:k < (aA s).size:=by rw[HZ.out];exact bC
     have hg:(aA s)[k]'jZ=s[k]'bC:=jJ s k jZ;have aT:=hF.out;rw[Y1 bC] at aT;have iF:(s[k]'bC).toNat < 256:=(s[k]'bC).toNat_lt;obtain⟨c,hc⟩:∃c,c=s[k]'bC:=⟨_,rfl⟩;rw[←hc] at hg aT iF;have HL2:=hid (zY c);have HD:=hid (fun w=>mH c 10 (by decide) (by decide) 10 rfl w);have CL:=Uv c;have wK:sH c=(Di c||kL c||c==43||c==45||c==46):=rfl;have e43:((c.toNat:Int)!=43)= !(c==43):=Bp c 43 (by decide);have e45:((c.toNat:Int)!=45)= !(c==45):=Bp c 45 (by decide);have e46:((c.toNat:Int)!=46)= !(c==46):=Bp c 46 (by decide);generalize vQ (nJ c 10)=dg at*;generalize (c==43)=b43 at*;generalize (c==45)=b45 at*;generalize (c==46)=b46 at*;generalize Di c=lc at*;generalize kL c=nc at*;clear hF hc;have dO:(lc=true∧sH c=true)∨(lc=false∧nc=true∧sH c=true)∨(lc=false∧nc=false∧b43=true∧sH c=true)∨(lc=false∧nc=false∧b43=false∧b45=true∧sH c=true)∨(lc=false∧nc=false∧b43=false∧b45=false∧b46=true∧sH c=true)∨(lc=false∧nc=false∧b43=false∧b45=false∧b46=false∧sH c=false):=by cases lc<;>cases nc<;>cases b43<;>cases b45<;>cases b46<;>simp_all
     clear wK;rcases dO with⟨rfl,wK⟩|⟨rfl,rfl,wK⟩|⟨rfl,rfl,rfl,wK⟩|⟨rfl,rfl,rfl,rfl,wK⟩|⟨rfl,rfl,rfl,rfl,rfl,wK⟩|⟨rfl,rfl,rfl,rfl,rfl,wK⟩
     ·rw[wK,Bool.true_and] at aT;have HF:=hid aT;clear aT wK;go_wp2_with fail;refine(HL2.out _).mono ?_;rintro e w' ⟨rfl,rfl⟩;go_wp2_with fail;go_roundw;case rel=>exact⟨k+1,by go_num,by omega,by omega,HF,trivial⟩
      case measure=>simp[intOf];omega
     iterate 4
      ·rw[wK,Bool.true_and] at aT;have HF:=hid aT;clear aT wK;go_wp2_with fail;refine(HL2.out _).mono ?_;rintro e w' ⟨rfl,rfl⟩;go_wp2_with fail;refine(HD.out _).mono ?_;rintro e w' ⟨rfl,rfl⟩;go_wp2_with fail;go_roundw;case rel=>exact⟨k+1,by go_num,by omega,by omega,HF,trivial⟩
       case measure=>simp[intOf];omega
     ·rw[wK,Bool.false_and] at aT;have HF:=hid aT;clear aT wK;go_wp2_with fail;refine(HL2.out _).mono ?_;rintro e w' ⟨rfl,rfl⟩;go_wp2_with fail;refine(HD.out _).mono ?_;rintro e w' ⟨rfl,rfl⟩;go_wp2_with fail;go_ret;exact⟨aZ (by rw[HF.out]),rfl⟩
    ·obtain rfl:k=s.length:=by omega
     have HF:Hid (uC s=true):=hid (by rw[hF.out,List.drop_length];rfl);have Bd:=HZ.out;clear hF HZ;go_wp2_with fail;go_ret;exact⟨aZ (by rw[HF.out]),rfl⟩
theorem Sn (n:Nat):uS n []=some n:=rfl
theorem wM (n:Nat) (c:UInt8) (t:List UInt8):uS n (c::t)=match nJ c 10 with
 |none=>none
 |some d=>uS (if(9223372036854775807 - d) / 10 < n then 9223372036854775807 else n*10+d) t:=rfl
theorem V9:∀(s:List UInt8) (n m:Nat),n≤9223372036854775807→uS n s=some m→m≤9223372036854775807:=by
 intro s;induction s with
 |nil=>intro n m hn h;cases h;exact hn
 |cons c t ih=>
  intro n m hn h;rw[wM] at h;cases hd:nJ c 10 with
  |none=>rw[hd] at h;cases h
  |some d=>rw[hd] at h;have CL:=zX hd;refine ih _ m ?_ h;split<;>omega
theorem BW {s:List UInt8} {m:Nat} (h:fJ s=some m):m≤9223372036854775807:=by
 unfold fJ at h;split at h;·cases h
 ·exact V9 s 0 m (by omega) h
theorem oT (s:List UInt8) (hs:s.length≤1000000000) (w:World):Calls Tryz.prog 153 #[.string (aA s)] w fun e w'=>e= .returned (vG (fJ s))∧w=w':=by
 by_cases h0:s=[]
 ·subst h0;have he:(aA []).toList.isEmpty=true:=by rw[cC];rfl
  go_enter Tryz.func153,Tryz.ntmps153;go_wp2_with fail;go_ret2;exact⟨rfl,rfl⟩
 ·have he:=mN h0;have HR:Hid (fJ s=uS 0 s):=hid (by unfold fJ;rw[if_neg h0]);have HZ:=hid (aD s);clear h0;go_enter Tryz.func153,Tryz.ntmps153;go_wp2_with fail;go_loopw [4,11] (fun a i wr=>∃n k:Nat,a= .int .i64 (n:Int)∧i= .int .i64 (k:Int)∧k≤s.length∧Hid (n≤9223372036854775807)∧Hid (uS 0 s=uS n (s.drop k))∧w=wr) (fun _ i _=>s.length - (intOf i).toNat);case atStart=>exact⟨0,0,rfl,rfl,Nat.zero_le _,hid (by omega),hid rfl,rfl⟩
  case round=>
   obtain⟨n,k,rfl,rfl,hk,hn,hF,rfl⟩:=hrel;by_cases bC:k < s.length
   ·have jZ:k < (aA s).size:=by rw[HZ.out];exact bC
    obtain⟨c,hd,hg⟩:=iN bC;have hc:=hg jZ;have iF:c.toNat < 256:=c.toNat_lt;have aT:=hF.out;rw[hd,wM] at aT;clear hd hg hF;have HC:=hid (fun w=>mH c 10 (by decide) (by decide) 10 rfl w);cases DJ:nJ c 10 with
    |none=>rw[DJ] at aT HC;have HF:Hid (fJ s=none):=hid (by rw[HR.out,aT]);simp only[vQ] at HC;clear aT DJ;go_wp2_with fail;refine(HC.out _).mono ?_;rintro e w' ⟨rfl,rfl⟩;go_wp2_with fail;go_ret2;exact⟨hY (by rw[HF.out];rfl),rfl⟩
    |some d=>
     have CL:=zX DJ;rw[DJ] at aT HC;simp only[vQ] at HC aT;clear DJ;have hq:((9223372036854775807:Int) - (d:Int)).tdiv 10=(((9223372036854775807 - d) / 10:Nat):Int):=by rw[Int.tdiv_eq_ediv_of_nonneg (by omega)];omega
     by_cases vC:(9223372036854775807 - d) / 10 < n
     ·rw[if_pos vC] at aT;have HF:=hid aT;have eN:decide ((((9223372036854775807 - d) / 10:Nat):Int) < (n:Int))=true:=by simp;omega
      clear aT;go_wp2_with fail;refine(HC.out _).mono ?_;rintro e w' ⟨rfl,rfl⟩;go_wp2_with fail
      trace_state
      go_roundw;case rel=>exact⟨9223372036854775807,k+1,rfl,by go_num,by omega,hid (by omega),HF,trivial⟩
      case measure=>simp[intOf];omega
     ·rw[if_neg vC] at aT;have HF:=hid aT;have hnb:=hn.out;have hm:n*10+d≤9223372036854775807:=by omega
      have HN:=hid hm;have eN:decide ((((9223372036854775807 - d) / 10:Nat):Int) < (n:Int))=false:=by simp;omega
      clear aT;go_wp2_with fail;refine(HC.out _).mono ?_;rintro e w' ⟨rfl,rfl⟩;go_wp2_with fail;go_roundw;case rel=>exact⟨n*10+d,k+1,by go_num,by go_num,by omega,HN,HF,trivial⟩
      case measure=>simp[intOf];omega
   ·obtain rfl:k=s.length:=by omega
    have aT:=hF.out;rw[List.drop_length,Sn] at aT;have HF:=hid aT;have Bd:=HZ.out;clear hF aT HZ;go_wp2_with fail;go_ret2;exact⟨hY (by rw[HR.out,HF.out];rfl),rfl⟩
theorem Wa (sp:Bool):dN sp []=([],[]):=rfl
theorem Wb {sp:Bool} {c:UInt8} {t:List UInt8} (h:fR sp c=true):dN sp (c::t)=([],c::t):=by unfold dN;rw[List.takeWhile_cons,List.dropWhile_cons];simp[h]
theorem Y2 {sp:Bool} {c:UInt8} {t:List UInt8} (h:fR sp c=false):dN sp (c::t)=(c::(dN sp t).1,(dN sp t).2):=by unfold dN;rw[List.takeWhile_cons,List.dropWhile_cons];simp[h]
theorem Pj (s:List UInt8) (sp:Bool) (hs:s.length≤1000000000) (w:World):Calls Tryz.prog 141 #[.string (aA s),.bool sp] w fun e w'=>e= .returned (.tuple #[.string (aA (dN sp s).1),.string (aA (dN sp s).2)])∧Below w.heap.size w w':=by
 have HZ:=hid (aD s);go_enter Tryz.func141,Tryz.ntmps141;go_wp2_with fail;go_loopw [6] (fun i wr=>∃k:Nat,i= .int .i64 (k:Int)∧k≤s.length∧Hid (dN sp s=(s.take k++(dN sp (s.drop k)).1,(dN sp (s.drop k)).2))∧w=wr) (fun i _=>s.length - (intOf i).toNat);case atStart=>exact⟨0,rfl,Nat.zero_le _,hid rfl,rfl⟩
 case round=>
  obtain⟨k,rfl,hk,hF,rfl⟩:=hrel;by_cases bC:k < s.length
  ·have jZ:k < (aA s).size:=by rw[HZ.out];exact bC
   have MF:k≤(aA s).size:=by rw[HZ.out];exact hk
   have hg:(aA s)[k]'jZ=s[k]'bC:=jJ s k jZ;have aT:=hF.out;rw[List.drop_eq_getElem_cons bC] at aT;have iF:(s[k]'bC).toNat < 256:=(s[k]'bC).toNat_lt;have Y3:s.take (k+1)=s.take k++[s[k]'bC]:=List.take_succ_eq_append_getElem bC;have hdk:s.drop k=s[k]'bC::s.drop (k+1):=List.drop_eq_getElem_cons bC;obtain⟨c,hc⟩:∃c,c=s[k]'bC:=⟨_,rfl⟩;rw[←hc] at hg aT iF Y3 hdk;have e47:((c.toNat:Int)==47)=(c==47):=lU c 47 (by decide);have e92:((c.toNat:Int)==92)=(c==92):=lU c 92 (by decide);have tF:fR sp c=(c==47||(sp&&c==92)):=rfl;have aB:=jX s k;have JN:=cX s k;have HDK:=hid hdk;have Sp:=hid Y3;have HC:= @Wb sp c (s.drop (k+1));have HN:= @Y2 sp c (s.drop (k+1));generalize (c==47)=Y4 at*;generalize (c==92)=b92 at*;clear hF hc hdk Y3;have dO:(Y4=true∧fR sp c=true)∨(Y4=false∧sp=true∧b92=true∧fR sp c=true)∨(Y4=false∧sp=true∧b92=false∧fR sp c=false)∨(Y4=false∧sp=false∧fR sp c=false):=by cases Y4<;>cases b92<;>cases sp<;>simp_all
   clear tF;rcases dO with⟨rfl,wK⟩|⟨rfl,rfl,rfl,wK⟩|⟨rfl,rfl,rfl,wK⟩|⟨rfl,rfl,wK⟩;iterate 2
    ·rw[HC wK,List.append_nil,←HDK.out] at aT;have HF:=hid aT;clear aT wK HC HN;go_wp2_with fail;go_region;go_wp2_with fail;go_ret2;exact⟨by rw[HF.out];rfl,(Below.refl _ _).drew⟩
   ·rw[HN wK] at aT;have HF:Hid (dN true s=(s.take (k+1)++(dN true (s.drop (k+1))).1,(dN true (s.drop (k+1))).2)):=hid (by rw[aT,Sp.out];simp);clear aT wK HC HN aB JN;go_wp2_with fail;go_roundw;case rel=>exact⟨k+1,by go_num,by omega,HF,trivial⟩
    case measure=>simp[intOf];omega
   ·rw[HN wK] at aT;have HF:Hid (dN false s=(s.take (k+1)++(dN false (s.drop (k+1))).1,(dN false (s.drop (k+1))).2)):=hid (by rw[aT,Sp.out];simp);clear aT wK HC HN aB JN;go_wp2_with fail;go_roundw;case rel=>exact⟨k+1,by go_num,by omega,HF,trivial⟩
    case measure=>simp[intOf];omega
  ·obtain rfl:k=s.length:=by omega
   have HF:Hid (dN sp s=(s,[])):=hid (by rw[hF.out,List.drop_length,Wa];simp);have Bd:=HZ.out;clear hF HZ;go_wp2_with fail;go_ret2;exact⟨by rw[HF.out];rfl,Below.refl _ _⟩
def Y5:Option Nat→Int
 |none=> -1
 |some k=>(k:Int)
theorem FP (b:Bool) (c:UInt8) (t:List UInt8):kK b (c::t)=if c=58∧b=false then some 0 else(kK (if c=91 then true else if c=93 then false else b) t).map (· +1):=rfl
theorem IN (s:List UInt8) (hs:s.length≤1000000000) (w:World):Calls Tryz.prog 183 #[.string (aA s)] w fun e w'=>e= .returned (.int .i64 (Y5 (kK false s)))∧w=w':=by
 have HZ:=hid (aD s);go_enter Tryz.func183,Tryz.ntmps183;go_wp2_with fail;go_loopw [3,4] (fun b i wr=>∃(f:Bool) (k:Nat),b= .bool f∧i= .int .i64 (k:Int)∧k≤s.length∧Hid (kK false s=(kK f (s.drop k)).map (· +k))∧w=wr) (fun _ i _=>s.length - (intOf i).toNat);case atStart=>exact⟨false,0,rfl,rfl,Nat.zero_le _,hid (by simp),rfl⟩
 case round=>
  obtain⟨f,k,rfl,rfl,hk,hF,rfl⟩:=hrel;by_cases bC:k < s.length
  ·have jZ:k < (aA s).size:=by rw[HZ.out];exact bC
   have hg:(aA s)[k]'jZ=s[k]'bC:=jJ s k jZ;have aT:=hF.out;rw[List.drop_eq_getElem_cons bC] at aT;have iF:(s[k]'bC).toNat < 256:=(s[k]'bC).toNat_lt;obtain⟨c,hc⟩:∃c,c=s[k]'bC:=⟨_,rfl⟩;rw[←hc,FP] at aT;rw[←hc] at hg iF;have e58:((c.toNat:Int)==58)=(c==58):=lU c 58 (by decide);have e91:((c.toNat:Int)==91)=(c==91):=lU c 91 (by decide);have e93:((c.toNat:Int)==93)=(c==93):=lU c 93 (by decide);clear hF hc;have dO:c=91∨c=93∨(c=58∧f=false)∨(c=58∧f=true)∨(c≠91∧c≠93∧c≠58):=by
    by_cases h1:c=91;·exact .inl h1
    by_cases h2:c=93;·exact .inr (.inl h2)
    by_cases h3:c=58
    ·cases f;·exact .inr (.inr (.inl ⟨h3,rfl⟩))
     ·exact .inr (.inr (.inr (.inl ⟨h3,rfl⟩)))
    ·exact .inr (.inr (.inr (.inr ⟨h1,h2,h3⟩)))
   have GG:∀(g:Bool),((kK g (s.drop (k+1))).map (· +1)).map (· +k)=(kK g (s.drop (k+1))).map (· +(k+1)):=by intro g;cases kK g (s.drop (k+1))<;>simp;omega
   rcases dO with rfl|rfl|⟨rfl,rfl⟩|⟨rfl,rfl⟩|⟨h1,h2,h3⟩
   ·rw[if_neg (fun h=>absurd h.1 (by decide)),if_pos rfl,GG] at aT;have HF:=hid aT;clear aT e58 e91 e93 GG;go_wp2_with fail;go_roundw;case rel=>exact⟨true,k+1,rfl,by go_num,by omega,HF,trivial⟩
    case measure=>simp[intOf];omega
   ·rw[if_neg (fun h=>absurd h.1 (by decide)),if_neg (by decide),if_pos rfl,GG] at aT;have HF:=hid aT;clear aT e58 e91 e93 GG;go_wp2_with fail;go_roundw;case rel=>exact⟨false,k+1,rfl,by go_num,by omega,HF,trivial⟩
    case measure=>simp[intOf];omega
   ·rw[if_pos ⟨rfl,rfl⟩] at aT;have HF:Hid (kK false s=some k):=hid (by rw[aT];simp);clear aT e58 e91 e93 GG;go_wp2_with fail;go_ret;exact⟨by rw[HF.out];rfl,rfl⟩
   ·rw[if_neg (by simp),if_neg (by decide),if_neg (by decide),GG] at aT;have HF:=hid aT;clear aT e58 e91 e93 GG;go_wp2_with fail;go_roundw;case rel=>exact⟨true,k+1,rfl,by go_num,by omega,HF,trivial⟩
    case measure=>simp[intOf];omega
   ·rw[if_neg (fun h=>h3 h.1),if_neg h1,if_neg h2,GG] at aT;have HF:=hid aT;rw[beq_eq_false_iff_ne.mpr h1] at e91;rw[beq_eq_false_iff_ne.mpr h2] at e93;rw[beq_eq_false_iff_ne.mpr h3] at e58;clear aT GG h1 h2 h3;go_wp2_with fail;go_roundw;case rel=>exact⟨f,k+1,rfl,by go_num,by omega,HF,trivial⟩
    case measure=>simp[intOf];omega
  ·obtain rfl:k=s.length:=by omega
   have HF:Hid (kK false s=none):=hid (by rw[hF.out,List.drop_length];rfl);have Bd:=HZ.out;clear hF HZ;go_wp2_with fail;go_ret;exact⟨by rw[HF.out];rfl,rfl⟩
theorem Sq:∀(s:List UInt8) (n:Nat) (c:UInt8),c∈s→nJ c 10=none→uS n s=none:=by
 intro s;induction s with
 |nil=>intro n c h;simp at h
 |cons d t ih=>
  intro n c h hc;rw[wM];rcases List.mem_cons.1 h with rfl|h;·rw[hc]
  ·cases nJ d 10 with
   |none=>rfl
   |some e=>exact ih _ c h hc
theorem Wc {scheme s:List UInt8} {c:UInt8} (h:c∈s) (hc:nJ c 10=none):nR scheme s=none:=by
 unfold nR;have eG:s≠[]:=by intro e;rw[e] at h;simp at h
 rw[if_neg eG];have:fJ s=none:=by unfold fJ;rw[if_neg eG];exact Sq s 0 c h hc
 rw[this]
def DK (o:Option (Bool×Nat)):Value:=match o with
 |none=> .tuple #[.int .i64 0,.bool false,.bool false]
 |some (has,n)=> .tuple #[.int .i64 (n:Int),.bool has,.bool true]
theorem Sr (s:List UInt8):uR (aA s)=match uD s with
 |some n=>((n:Int),true)
 |none=>(0,false):=by
 unfold uR uD;simp only[Dq];by_cases h1:s=[102,116,112];·subst h1;rfl
 by_cases h2:s=[104,116,116,112];·subst h2;rfl
 by_cases h3:s=[119,115];·subst h3;rfl
 by_cases h4:s=[104,116,116,112,115];·subst h4;rfl
 by_cases h5:s=[119,115,115];·subst h5;rfl
 simp[h1,h2,h3,h4,h5]
theorem Pk (s:List UInt8) (w:World):Calls Tryz.prog 206 #[.string (aA s)] w fun e w'=>e= .returned (match uD s with
 |some n=> .tuple #[.int .i64 (n:Int),.bool true]
 |none=> .tuple #[.int .i64 0,.bool false])∧w=w':=by
 refine(Rq (aA s) w).mono ?_;rintro e w' ⟨h1,h2⟩;rw[Sr] at h1;refine⟨?_,h2⟩;rw[h1];cases uD s<;>rfl
theorem Ss {scheme s:List UInt8} (h0:s≠[]):nR scheme s=match fJ s with
 |none=>none
 |some n=>if 65535 < n then none else if uD scheme=some n then some (false,0) else some (true,n):=by
 unfold nR;rw[if_neg h0];cases fJ s<;>rfl
theorem BX (sch s:List UInt8) (hs:s.length≤1000000000) (w:World):Calls Tryz.prog 184 #[.string (aA sch),.string (aA s)] w fun e w'=>e= .returned (DK (nR sch s))∧w=w':=by
 by_cases h0:s=[]
 ·subst h0;have HF:Hid (nR sch []=some (false,0)):=hid (by unfold nR;rw[if_pos rfl]);have hz:((aA []).toList==[])=true:=by rw[ByteArray.toList_eq,aC];rfl
  have qL:(aA []).toList.isEmpty=true:=by rw[ByteArray.toList_eq,aC];rfl
  go_enter Tryz.func184,Tryz.ntmps184;go_wp2_with fail
  go_ret3
  exact⟨by rw[HF.out];rfl,rfl⟩
 have HM:=hid (Ss (scheme:=sch) h0);have eG:=mN h0;have GF:((aA s).toList==[])=false:=by rw[ByteArray.toList_eq,aC];exact beq_eq_false_iff_ne.mpr h0
 have HZ:=hid (aD s);have HW0:=hid (fun W=>oT s hs W);have HP0:=hid (fun W=>Pk sch W);have HLE:= @BW s;clear h0;go_enter Tryz.func184,Tryz.ntmps184;go_wp2_with fail;go_loopw [7] (fun i wr=>∃k:Nat,i= .int .i64 (k:Int)∧k≤s.length∧w=wr) (fun i _=>s.length - (intOf i).toNat);case atStart=>exact⟨0,rfl,Nat.zero_le _,rfl⟩
 case round=>
  obtain⟨k,rfl,hk,rfl⟩:=hrel;by_cases bC:k < s.length
  ·have jZ:k < (aA s).size:=by rw[HZ.out];exact bC
   have hg:(aA s)[k]'jZ=s[k]'bC:=jJ s k jZ;have iF:(s[k]'bC).toNat < 256:=(s[k]'bC).toNat_lt;have HD:=hid (fun w=>mH (s[k]'bC) 10 (by decide) (by decide) 10 rfl w);have GH:=fun h=>Wc (scheme:=sch) (List.getElem_mem bC) h;obtain⟨c,hc⟩:∃c,c=s[k]'bC:=⟨_,rfl⟩;rw[←hc] at hg iF HD GH;clear hc HLE;cases hd:nJ c 10 with
   |none=>
    rw[hd] at HD;have HF:=hid (GH hd);simp only[vQ] at HD;clear GH hd;go_wp2_with fail;refine(HD.out _).mono ?_;rintro e w' ⟨rfl,rfl⟩;go_wp2_with fail
    go_ret3
    exact⟨by rw[HF.out];rfl,rfl⟩
   |some d=>
    rw[hd] at HD;have CL:=zX hd;simp only[vQ] at HD;clear GH hd;go_wp2_with fail;refine(HD.out _).mono ?_;rintro e w' ⟨rfl,rfl⟩;go_wp2_with fail;go_roundw;case rel=>exact⟨k+1,by go_num,by omega,trivial⟩
    case measure=>simp[intOf];omega
  ·obtain rfl:k=s.length:=by omega
   have Bd:=HZ.out;clear HZ;cases hw:fJ s with
   |none=>
    rw[hw] at HW0 HM;have HF:=HM;simp only[vG] at HW0;clear HM hw HLE;go_wp2_with fail;refine(HW0.out _).mono ?_;rintro e w' ⟨rfl,rfl⟩;go_wp2_with fail
    go_ret3
    exact⟨by rw[HF.out];rfl,rfl⟩
   |some n=>
    have Ed:=HLE hw;rw[hw] at HW0 HM;simp only[vG] at HW0;have Lh:Hid (nR sch s=if 65535 < n then none else if uD sch=some n then some (false,0) else some (true,n)):=hid HM.out;clear HM hw HLE;by_cases vC:65535 < n
    ·have HF:Hid (nR sch s=none):=hid (by rw[Lh.out,if_pos vC]);have hd:decide ((65535:Int) < (n:Int))=true:=by simp;omega
     clear Lh vC;go_wp2_with fail;refine(HW0.out _).mono ?_;rintro e w' ⟨rfl,rfl⟩;go_wp2_with fail
     go_ret3
     exact⟨by rw[HF.out];rfl,rfl⟩
    ·have HM3:Hid (nR sch s=if uD sch=some n then some (false,0) else some (true,n)):=hid (by rw[Lh.out,if_neg vC]);have hd:decide ((65535:Int) < (n:Int))=false:=by simp;omega
     clear Lh vC;cases ho:uD sch with
     |none=>
      rw[ho] at HP0;have HF:Hid (nR sch s=some (true,n)):=hid (by rw[HM3.out,ho,if_neg (by simp)]);simp only at HP0;clear HM3 ho;go_wp2_with fail;refine(HW0.out _).mono ?_;rintro e w' ⟨rfl,rfl⟩;go_wp2_with fail;refine(HP0.out _).mono ?_;rintro e w' ⟨rfl,rfl⟩;go_wp2_with fail
      go_ret3
      exact⟨by rw[HF.out];rfl,rfl⟩
     |some m=>
      rw[ho] at HP0;simp only at HP0;by_cases hmn:m=n
      ·have HF:Hid (nR sch s=some (false,0)):=hid (by rw[HM3.out,ho,if_pos (by rw[hmn])]);have he:((m:Int)==(n:Int))=true:=by simp;omega
       clear HM3 ho hmn;go_wp2_with fail;refine(HW0.out _).mono ?_;rintro e w' ⟨rfl,rfl⟩;go_wp2_with fail;refine(HP0.out _).mono ?_;rintro e w' ⟨rfl,rfl⟩;go_wp2_with fail
       go_ret3
       exact⟨by rw[HF.out];rfl,rfl⟩
      ·have HF:Hid (nR sch s=some (true,n)):=hid (by rw[HM3.out,ho,if_neg (by simpa using hmn)]);have he:((m:Int)==(n:Int))=false:=by simp;omega
       clear HM3 ho hmn;go_wp2_with fail;refine(HW0.out _).mono ?_;rintro e w' ⟨rfl,rfl⟩;go_wp2_with fail;refine(HP0.out _).mono ?_;rintro e w' ⟨rfl,rfl⟩;go_wp2_with fail
       go_ret3
       exact⟨by rw[HF.out];rfl,rfl⟩
def EU:Ending:= .panicked [{v:= .iface 230 (.agg #[]),recovered:=false}]
def Y6 (o:Option Nat):Ending:=match o with
 |some n=> .returned (.int .u16 (n:Int))
 |none=>EU
def Y7 (o:Option Nat):Ending:=match o with
 |some n=> .returned (.int .i64 (n:Int))
 |none=>EU
theorem St (n:Nat):zD n []=some n:=rfl
theorem Pl (n:Nat) (c:UInt8) (t:List UInt8):zD n (c::t)=match nJ c 16 with
 |none=>none
 |some d=>zD (n*16+d) t:=rfl
theorem Su (n:Nat):zE n []=some n:=rfl
theorem Pm (n:Nat) (c:UInt8) (t:List UInt8):zE n (c::t)=match nJ c 10 with
 |none=>none
 |some d=>zE (n*10+d) t:=rfl
theorem Wd (s:List UInt8) (hs:s.length≤1000000000) (w:World):Calls Tryz.prog 225 #[.string (aA s)] w fun e w'=>e=Y6 (kD s)∧w=w':=by
 have HZ:=hid (aD s);by_cases h0:s=[]
 ·have HF:Hid (kD s=none):=hid (by unfold kD;rw[if_pos (.inl h0)]);have he:(aA s).toList.isEmpty=true:=by rw[h0,cC];rfl
  clear h0;go_enter Tryz.func225,Tryz.ntmps225;go_wp2_with fail;exact⟨rfl,by rw[HF.out];rfl,rfl⟩
 have he:=mN h0;by_cases h4:4 < s.length
 ·have HF:Hid (kD s=none):=hid (by unfold kD;rw[if_pos (.inr h4)]);have hz4:4 < (aA s).size:=by rw[HZ.out];exact h4
  clear h0 h4;go_enter Tryz.func225,Tryz.ntmps225;go_wp2_with fail;exact⟨rfl,by rw[HF.out];rfl,rfl⟩
 have jB:Hid (kD s=(zD 0 s).map (·% 65536)):=hid (by unfold kD;rw[if_neg (fun h=>h.elim h0 h4)]);have hz4:(aA s).size≤4:=by rw[HZ.out];omega
 have hs4:s.length≤4:=by omega
 clear h0 h4 hs;go_enter Tryz.func225,Tryz.ntmps225;go_wp2_with fail;go_loopw [3,17] (fun a i wr=>∃n k:Nat,a= .int .i64 (n:Int)∧i= .int .i64 (k:Int)∧k≤s.length∧Hid (n < 16 ^ k)∧Hid (zD 0 s=zD n (s.drop k))∧w=wr) (fun _ i _=>s.length - (intOf i).toNat);case atStart=>exact⟨0,0,rfl,rfl,Nat.zero_le _,hid (by decide),hid rfl,rfl⟩
 case round=>
  obtain⟨n,k,rfl,rfl,hk,hn,hF,rfl⟩:=hrel;by_cases bC:k < s.length
  ·have jZ:k < (aA s).size:=by rw[HZ.out];exact bC
   obtain⟨c,hd,hg⟩:=iN bC;have hc:=hg jZ;have iF:c.toNat < 256:=c.toNat_lt;have aT:=hF.out;rw[hd,Pl] at aT;clear hd hg hF;have hp:(16:Nat) ^ k≤16 ^ 3:=Nat.pow_le_pow_right (by omega) (by omega);have hn4:n < 4096:=Nat.lt_of_lt_of_le hn.out hp;have HC:=hid (fun w=>mH c 16 (by decide) (by decide) 16 rfl w);clear hp;cases DJ:nJ c 16 with
   |none=>rw[DJ] at aT HC;have HF:Hid (kD s=none):=hid (by rw[jB.out,aT];rfl);simp only[vQ] at HC;clear aT DJ;go_wp2_with fail;refine(HC.out _).mono ?_;rintro e w' ⟨rfl,rfl⟩;go_wp2_with fail;exact⟨rfl,by rw[HF.out];rfl,rfl⟩
   |some d=>
    have CL:=zX DJ;rw[DJ] at aT HC;simp only[vQ] at HC aT;have HF:=hid aT;have HN:Hid (n*16+d < 16 ^ (k+1)):=hid (by have:=hn.out;rw[Nat.pow_succ];omega);clear aT DJ;go_wp2_with fail;refine(HC.out _).mono ?_;rintro e w' ⟨rfl,rfl⟩;go_wp2_with fail;go_roundw;case rel=>exact⟨n*16+d,k+1,by go_num,by go_num,by omega,HN,HF,trivial⟩
    case measure=>simp[intOf];omega
  ·obtain rfl:k=s.length:=by omega
   have aT:=hF.out;rw[List.drop_length,St] at aT;have HF:=hid aT;have Bd:=HZ.out;clear hF aT HZ;have hp:(16:Nat) ^ s.length≤16 ^ 4:=Nat.pow_le_pow_right (by omega) (by omega);have hn4:n < 65536:=Nat.lt_of_lt_of_le hn.out hp;have sI:Hid (kD s=some n):=hid (by rw[jB.out,HF.out];simp;omega);clear hp;go_wp2_with fail;go_ret;exact⟨by rw[sI.out];rfl,rfl⟩
theorem Pn (s:List UInt8) (hs:s.length≤1000000000) (w:World):Calls Tryz.prog 235 #[.string (aA s)] w fun e w'=>e=Y7 (cW s)∧w=w':=by
 have HZ:=hid (aD s);by_cases h0:s=[]
 ·have HF:Hid (cW s=none):=hid (by unfold cW;rw[if_pos (.inl h0)]);have he:(aA s).toList.isEmpty=true:=by rw[h0,cC];rfl
  clear h0;go_enter Tryz.func235,Tryz.ntmps235;go_wp2_with fail;exact⟨rfl,by rw[HF.out];rfl,rfl⟩
 have he:=mN h0;by_cases h4:3 < s.length
 ·have HF:Hid (cW s=none):=hid (by unfold cW;rw[if_pos (.inr (.inl h4))]);have hz4:3 < (aA s).size:=by rw[HZ.out];exact h4
  clear h0 h4;go_enter Tryz.func235,Tryz.ntmps235;go_wp2_with fail;exact⟨rfl,by rw[HF.out];rfl,rfl⟩
 have hz4:(aA s).size≤3:=by rw[HZ.out];omega
 have hs4:s.length≤3:=by omega
 have C9:0 < s.length:=List.length_pos_iff.mpr h0;have hzp:0 < (aA s).size:=by rw[HZ.out];exact C9
 have hg0:(aA s)[0]'hzp=s[0]'C9:=jJ s 0 hzp;have hh:s.head? =some (s[0]'C9):=by rw[List.head?_eq_getElem?,List.getElem?_eq_getElem C9]
 have hc0:(s[0]'C9).toNat < 256:=(s[0]'C9).toNat_lt;obtain⟨z,hz⟩:∃z,z=s[0]'C9:=⟨_,rfl⟩;rw[←hz] at hg0 hh hc0;clear hz;have akI:(1 < s.length∧s.head? =some 48)∨(cW s=(match zE 0 s with
  |none=>none
  |some n=>if 255 < n then none else some n)∧(¬1 < s.length∨¬z=48)):=by
  by_cases h:1 < s.length∧s.head? =some 48;·exact .inl h
  ·refine .inr ⟨by unfold cW;rw[if_neg (fun hx=>hx.elim h0 (fun hx=>hx.elim h4 h))];cases zE 0 s<;>rfl,?_⟩;by_cases h1:1 < s.length;·right;intro e;exact h ⟨h1,by rw[hh,e]⟩
   ·left;exact h1
 rcases akI with⟨h1,Y8⟩|⟨Sv,wU⟩
 ·have HF:Hid (cW s=none):=hid (by unfold cW;rw[if_pos (.inr (.inr ⟨h1,Y8⟩))]);have rX:1 < (aA s).size:=by rw[HZ.out];exact h1
  have Bd:z=48:=by rw[hh] at Y8;injection Y8
  have hzI:((z.toNat:Int)==48)=true:=by rw[Bd];rfl
  clear h0 h4 h1 Y8 Bd hh;go_enter Tryz.func235,Tryz.ntmps235;go_wp2_with fail;exact⟨rfl,by rw[HF.out];rfl,rfl⟩
 have HD:=hid Sv;have HNO:Hid ((aA s).size≤1∨((z.toNat:Int)==48)=false):=hid (by
  rcases wU with h|h;·left;rw[HZ.out];omega
  ·right;rw[beq_eq_false_iff_ne];intro e;exact h (by rw[←UInt8.toNat_inj];show z.toNat=48;omega))
 clear h0 h4 Sv wU hh;have agV:(aA s).size≤1∨(1 < (aA s).size∧((z.toNat:Int)==48)=false):=by
  rcases HNO.out with h|h;·exact .inl h
  ·by_cases h1:1 < (aA s).size;·exact .inr ⟨h1,h⟩
   ·exact .inl (by omega)
 rcases agV with rX|⟨rX,hzI⟩;all_goals
  go_enter Tryz.func235,Tryz.ntmps235;go_wp2_with fail;go_loopw [3,27] (fun a i wr=>∃n k:Nat,a= .int .i64 (n:Int)∧i= .int .i64 (k:Int)∧k≤s.length∧Hid (n < 10 ^ k)∧Hid (zE 0 s=zE n (s.drop k))∧w=wr) (fun _ i _=>s.length - (intOf i).toNat);case atStart=>exact⟨0,0,rfl,rfl,Nat.zero_le _,hid (by decide),hid rfl,rfl⟩
  case round=>
   clear hg0;obtain⟨n,k,rfl,rfl,hk,hn,hF,rfl⟩:=hrel;by_cases bC:k < s.length
   ·have jZ:k < (aA s).size:=by rw[HZ.out];exact bC
    obtain⟨c,hd,hg⟩:=iN bC;have hc:=hg jZ;have iF:c.toNat < 256:=c.toNat_lt;have aT:=hF.out;rw[hd,Pm] at aT;clear hd hg hF;have hp:(10:Nat) ^ k≤10 ^ 2:=Nat.pow_le_pow_right (by omega) (by omega);have hn4:n < 100:=Nat.lt_of_lt_of_le hn.out hp;have HC:=hid (fun w=>mH c 10 (by decide) (by decide) 10 rfl w);clear hp;cases DJ:nJ c 10 with
    |none=>rw[DJ] at aT HC;have HF:Hid (cW s=none):=hid (by rw[HD.out,aT]);simp only[vQ] at HC;clear aT DJ;go_wp2_with fail;refine(HC.out _).mono ?_;rintro e w' ⟨rfl,rfl⟩;go_wp2_with fail;exact⟨rfl,by rw[HF.out];rfl,rfl⟩
    |some d=>
     have CL:=zX DJ;rw[DJ] at aT HC;simp only[vQ] at HC aT;have HF:=hid aT;have HN:Hid (n*10+d < 10 ^ (k+1)):=hid (by have:=hn.out;rw[Nat.pow_succ];omega);clear aT DJ;go_wp2_with fail;refine(HC.out _).mono ?_;rintro e w' ⟨rfl,rfl⟩;go_wp2_with fail;go_roundw;case rel=>exact⟨n*10+d,k+1,by go_num,by go_num,by omega,HN,HF,trivial⟩
     case measure=>simp[intOf];omega
   ·obtain rfl:k=s.length:=by omega
    have aT:=hF.out;rw[List.drop_length,Su] at aT;have hp:(10:Nat) ^ s.length≤10 ^ 3:=Nat.pow_le_pow_right (by omega) (by omega);have hn4:n < 1000:=Nat.lt_of_lt_of_le hn.out hp;have Bd:=HZ.out;clear hF hp;by_cases Sw:255 < n;·have HF:Hid (cW s=none):=hid (by rw[HD.out,aT];simp[Sw]);clear aT;go_wp2_with fail;exact⟨rfl,by rw[HF.out];rfl,rfl⟩
    ·have HF:Hid (cW s=some n):=hid (by rw[HD.out,aT];simp[Sw]);clear aT;go_wp2_with fail;go_ret;exact⟨by rw[HF.out];rfl,rfl⟩
end Go.Proofs.YtmgmclkplepapaaGreatDoor
