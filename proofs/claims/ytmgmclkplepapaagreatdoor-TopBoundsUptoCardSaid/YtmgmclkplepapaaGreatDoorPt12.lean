/- Part of the proof of TopBoundsUptoCardSaid. Conditions: none beyond the statement. -/
import Derived.Deep.Light
import Derived.Test.YtmgmclkplepapaaGreatDoorPt3
import Derived.Test.YtmgmclkplepapaaGreatDoorPt7
set_option linter.all false
set_option maxRecDepth 100000
set_option maxHeartbeats 64000000
namespace Go.Proofs.YtmgmclkplepapaaGreatDoor
open Go.RowKit
theorem Yv (c:UInt8):aI c=(decide (c.toNat=9)||decide (c.toNat=10)||decide (c.toNat=12)||decide (c.toNat=13)||decide (c.toNat=32)):=by
 have:∀i:Fin 256,aI (UInt8.ofNat i.val)=(decide (i.val=9)||decide (i.val=10)||decide (i.val=12)||decide (i.val=13)||decide (i.val=32)):=by decide+kernel
 have h:=this ⟨c.toNat,c.toNat_lt⟩;simpa using h
theorem agK (c:UInt8):Ev c=(decide (c.toNat=0)||decide (c.toNat=9)||decide (c.toNat=10)||decide (c.toNat=13)||decide (c.toNat=32)||decide (c.toNat=35)||decide (c.toNat=47)||decide (c.toNat=58)||decide (c.toNat=60)||decide (c.toNat=62)||decide (c.toNat=63)||decide (c.toNat=64)||decide (c.toNat=91)||decide (c.toNat=92)||decide (c.toNat=93)||decide (c.toNat=94)||decide (c.toNat=124)):=by
 have:∀i:Fin 256,Ev (UInt8.ofNat i.val)=(decide (i.val=0)||decide (i.val=9)||decide (i.val=10)||decide (i.val=13)||decide (i.val=32)||decide (i.val=35)||decide (i.val=47)||decide (i.val=58)||decide (i.val=60)||decide (i.val=62)||decide (i.val=63)||decide (i.val=64)||decide (i.val=91)||decide (i.val=92)||decide (i.val=93)||decide (i.val=94)||decide (i.val=124)):=by decide+kernel
 have h:=this ⟨c.toNat,c.toNat_lt⟩;simpa using h
theorem mF (c:UInt8) (w:World):Calls Tryz.prog 64 #[.int .u8 (c.toNat:Int)] w fun e w'=>e= .returned (.bool (aI c))∧w=w':=by
 have bC:=c.toNat_lt;have hb:=hid (Yv c);go_enter Tryz.func64,Tryz.ntmps64;go_wp2;all_goals go_ret
 all_goals refine⟨aZ ?_,rfl⟩
 all_goals(go_light;rw[hb.out,Bool.eq_iff_iff];simp only[Bool.or_eq_true,Bool.and_eq_true,decide_eq_true_eq,beq_iff_eq,beq_eq_false_iff_ne,bne_iff_ne,decide_eq_false_iff_not,ne_eq,true_iff,iff_true,false_iff,iff_false,Bool.false_eq_true,reduceCtorEq,Bool.not_eq_true',Bool.not_eq_false'] at*;first|omega|(simp only[not_or,not_and] at*;omega))
theorem Om (c:UInt8) (w:World):Calls Tryz.prog 202 #[.int .u8 (c.toNat:Int)] w fun e w'=>e= .returned (.bool (Ev c))∧w=w':=by
 have bC:=c.toNat_lt;have hb:=hid (agK c);go_enter Tryz.func202,Tryz.ntmps202;go_wp2;all_goals go_ret
 all_goals refine⟨aZ ?_,rfl⟩
 all_goals(go_light;rw[hb.out,Bool.eq_iff_iff];simp only[Bool.or_eq_true,Bool.and_eq_true,decide_eq_true_eq,beq_iff_eq,beq_eq_false_iff_ne,bne_iff_ne,decide_eq_false_iff_not,ne_eq,true_iff,iff_true,false_iff,iff_false,Bool.false_eq_true,reduceCtorEq,Bool.not_eq_true',Bool.not_eq_false'] at*;first|omega|(simp only[not_or,not_and] at*;omega))
theorem abW (c a b:Int) (w:World):Calls Tryz.prog 236 #[.int .i64 c,.int .i64 a,.int .i64 b] w fun e w'=>e= .returned (.bool (decide (a≤c)&&decide (c≤b)))∧w=w':=by
 go_enter Tryz.func236,Tryz.ntmps236;go_wp2;all_goals go_ret
 all_goals refine⟨aZ ?_,rfl⟩
 all_goals(simp;try omega)
theorem Vx (c:Nat) (w:World):Calls Tryz.prog 227 #[.int .i64 (c:Int)] w fun e w'=>e= .returned (.bool (Hk c))∧w=w':=by
 have hg:Hid (Hk c=(decide (c=0xad)||decide (c=0x200b)||decide (c=0x2060)||decide (c=0xfeff))):=hid (by unfold Hk;rw[Bool.eq_iff_iff];simp);go_enter Tryz.func227,Tryz.ntmps227;go_wp2;all_goals go_ret
 all_goals refine⟨aZ ?_,rfl⟩
 all_goals(go_light;rw[hg.out,Bool.eq_iff_iff];simp only[Bool.or_eq_true,Bool.and_eq_true,decide_eq_true_eq,beq_iff_eq,beq_eq_false_iff_ne,bne_iff_ne,decide_eq_false_iff_not,ne_eq,true_iff,iff_true,false_iff,iff_false,Bool.false_eq_true,reduceCtorEq,Bool.not_eq_true',Bool.not_eq_false'] at*;first|omega|(simp only[not_or,not_and] at*;omega))
theorem Vy (c:Nat):lJ c=(decide (c≤0x10ffff)&&(decide (c < 0xd800)||decide (0xdfff < c))):=by simp only[lJ]
theorem FG (c:Nat) (w:World):Calls Tryz.prog 241 #[.int .i64 (c:Int)] w fun e w'=>e= .returned (.bool (lJ c))∧w=w':=by
 have hg:=hid (Vy c);go_enter Tryz.func241,Tryz.ntmps241;go_wp2;all_goals go_ret
 all_goals refine⟨aZ ?_,rfl⟩
 all_goals(go_light;rw[hg.out,Bool.eq_iff_iff];simp only[Bool.or_eq_true,Bool.and_eq_true,decide_eq_true_eq,beq_iff_eq,beq_eq_false_iff_ne,bne_iff_ne,decide_eq_false_iff_not,ne_eq,true_iff,iff_true,false_iff,iff_false,Bool.false_eq_true,reduceCtorEq,Bool.not_eq_true',Bool.not_eq_false'] at*;first|omega|(simp only[not_or,not_and] at*;omega))
def On (c:UInt8):Bool:=decide (c.toNat≤32)
theorem Oo (c:UInt8) (w:World):Calls Tryz.prog 93 #[.int .u8 (c.toNat:Int)] w fun e w'=>e= .returned (.bool (On c))∧w=w':=by have bC:=c.toNat_lt;go_enter Tryz.func93,Tryz.ntmps93;go_wp2;go_ret;refine⟨aZ ?_,rfl⟩;unfold On;rw[decide_eq_decide];omega
theorem zT {f:UInt8→Bool} (t:List UInt8) {c:UInt8} (hf:f c=true):bS f t=bS f (t++[c]):=by unfold bS;rw[List.reverse_append];simp[hf]
theorem zU {f:UInt8→Bool} (t:List UInt8) {c:UInt8} (hf:f c=false):bS f (t++[c])=t++[c]:=by unfold bS;rw[List.reverse_append];simp[hf]
theorem wF {f:UInt8→Bool} {l m:List UInt8} (h:m.dropWhile f=l.dropWhile f) (h2:m.dropWhile f=m):bS f m=cE f l:=by unfold bS cE;rw[←h,h2]
def eB:Value→List UInt8
 | .string s=>s.data.toList
 |_=>[]
theorem vA (t:List UInt8) (c:UInt8) (h:(t++[c]).length≤4000000000):(((aA (t++[c])).toList==[])=false)∧∃rL:t.length < (aA (t++[c])).size,t.length≤(aA (t++[c])).size∧IntKind.i64.wrap (((aA (t++[c])).size:Int) - 1)=(t.length:Int)∧(aA (t++[c]))[t.length]'rL=c∧(aA (t++[c])).extract 0 t.length=aA t∧(aA (t++[c])).size≤4000000000:=by
 have hz:=aD (t++[c]);have hl:(t++[c]).length=t.length+1:=by simp
 have rL:t.length < (aA (t++[c])).size:=by omega
 refine⟨?_,rL,by omega,?_,?_,?_,by omega⟩;·rw[ByteArray.toList_eq,aC,beq_eq_false_iff_ne];simp
 ·rw[IntWalk.i64_in _ (by omega)];omega
 ·rw[jJ];simp
 ·rw[jX];simp
theorem wG (t:List UInt8) (c:UInt8):(((aA (c::t)).toList==[])=false)∧∃rL:0 < (aA (c::t)).size,1≤(aA (c::t)).size∧(aA (c::t))[0]'rL=c∧(aA (c::t)).extract 1 (aA (c::t)).size=aA t:=by
 have hz:=aD (c::t);rw[List.length_cons] at hz;have rL:0 < (aA (c::t)).size:=by omega
 refine⟨?_,rL,by omega,?_,?_⟩;·rw[ByteArray.toList_eq,aC,beq_eq_false_iff_ne];simp
 ·rw[jJ];rfl
 ·rw[cX];rfl
theorem sV (m:List UInt8):m=[]∨∃t c,m=t++[c]:=by
 rcases List.eq_nil_or_concat m with h|⟨t,c,h⟩;·exact .inl h
 ·exact .inr ⟨t,c,by rw[h];exact List.concat_eq_append⟩
theorem Ms {a b:Value} (h:a=b):Ending.returned a= .returned b:=by rw[h]
theorem Gz (f:UInt8→Bool) (hF:∀(c:UInt8) (w:World),Calls Tryz.prog 93 #[.int .u8 (c.toNat:Int)] w fun e w'=>e= .returned (.bool (f c))∧w=w') (l:List UInt8) (w:World) (hl:l.length≤4000000000):
 Calls Tryz.prog 92 #[.string (aA l),.func (.func 93) #[] #[]] w fun e w'=>e= .returned (.string (aA (cE f l)))∧w=w':=by
 have Oq:=hid hF;clear hF;go_enter Tryz.func92,Tryz.ntmps92;go_wp2_with fail;go_loopw [0] (fun v wr=>∃m:List UInt8,v= .string (aA m)∧m.length≤4000000000∧Hid (m.dropWhile f=l.dropWhile f)∧w=wr) (fun v _=>(eB v).length);case atStart=>exact⟨l,rfl,hl,hid rfl,rfl⟩
 case round=>
  obtain⟨m,rfl,hm,hrel,rfl⟩:=hrel;cases m with
  |nil=>
   have Is:=hid (wF (f:=f) hrel.out rfl);have hz:((aA []).toList==[])=true:=by rw[ByteArray.toList_eq,aC];rfl
   clear hrel hm;go_wp2_with fail;clear hz;go_loopw [0] (fun v wr=>∃m:List UInt8,v= .string (aA m)∧m.length≤4000000000∧Hid (bS f m=cE f l)∧w=wr) (fun v _=>(eB v).length);case atStart=>exact⟨[],rfl,by simp,Is,rfl⟩
   case round=>
    obtain⟨m,rfl,hm,hrel,rfl⟩:=hrel;rcases sV m with rfl|⟨t,c,rfl⟩
    ·have pG:=hid hrel.out.symm;have hz:((aA []).toList==[])=true:=by rw[ByteArray.toList_eq,aC];rfl
     clear hrel hm;go_wp2_with fail;go_ret;exact⟨by rw[pG.out];rfl,rfl⟩
    ·obtain⟨eG,rL,hk,e1,hg,he,hxz⟩:=vA t c hm;have nG:=Oq.out c;have Vz:t.length≤4000000000:=by simp at hm;omega
     have HX:=hid (show aA (t++[c])=aA (t++[c]) from rfl);cases hf:f c with
     |true=>
      rw[hf] at nG;have HN:=hid ((zT t hf).trans hrel.out);have HL:=hid (show(eB (.string (aA (t++[c])))).length=t.length+1 by simp[eB,aC]);have HT:=hid (show(eB (.string (aA t))).length=t.length by simp[eB,aC]);generalize aA (t++[c])=x at*;generalize t.length=k at*;have tN:=hid nG;clear hf hrel hm nG;go_wp2_with fail;refine(tN.out w).mono ?_;rintro e w' ⟨rfl,rfl⟩;go_wp2_with fail;go_roundw;case rel=>exact⟨t,rfl,by first|exact Vz|(have:=HT.out;simp[eB,aC] at this;omega),HN,trivial⟩
      case measure=>have h1:=HL.out;have h2:=HT.out;omega
     |false=>rw[hf] at nG;have HN:=hid ((zU t hf).symm.trans hrel.out);have HR:Hid (aA (t++[c])=aA (cE f l)):=hid (by rw[HN.out]);generalize aA (t++[c])=x at*;generalize t.length=k at*;have tN:=hid nG;clear hf hrel hm nG;go_wp2_with fail;refine(tN.out w).mono ?_;rintro e w' ⟨rfl,rfl⟩;go_wp2_with fail;go_ret;exact⟨Ms (by rw[←HR.out];rfl),rfl⟩
  |cons c t=>
   obtain⟨eG,rL,hk,hg,he⟩:=wG t c;have nG:=Oq.out c;cases hf:f c with
   |true=>
    rw[hf] at nG;have HN:Hid (t.dropWhile f=l.dropWhile f):=hid (by rw[←hrel.out,List.dropWhile_cons,if_pos hf]);have Vz:t.length≤4000000000:=by simp at hm;omega
    have HL:=hid (show(eB (.string (aA (c::t)))).length=t.length+1 by simp[eB,aC]);have HT:=hid (show(eB (.string (aA t))).length=t.length by simp[eB,aC]);generalize aA (c::t)=x at*;have tN:=hid nG;clear hf hrel hm nG;go_wp2_with fail;refine(tN.out w).mono ?_;rintro e w' ⟨rfl,rfl⟩;go_wp2_with fail;go_roundw;case rel=>exact⟨t,rfl,Vz,HN,trivial⟩
    case measure=>have h1:=HL.out;have h2:=HT.out;omega
   |false=>
    rw[hf] at nG;have Is:=hid (wF (f:=f) hrel.out (by rw[List.dropWhile_cons,if_neg (by rw[hf];decide)]));have HM:=hid hm;generalize hx:aA (c::t)=x at*;have HX2:=hid hx;have tN:=hid nG;clear hf hrel hm nG hx;go_wp2_with fail;refine(tN.out w).mono ?_;rintro e w' ⟨rfl,rfl⟩;go_wp2_with fail;clear hg eG he hk tN;go_loopw [0] (fun v wr=>∃m:List UInt8,v= .string (aA m)∧m.length≤4000000000∧Hid (bS f m=cE f l)∧w=wr) (fun v _=>(eB v).length);case atStart=>exact⟨c::t,by rw[HX2.out],HM.out,Is,rfl⟩
    case round=>
     obtain⟨m,rfl,hm,hrel,rfl⟩:=hrel;rcases sV m with rfl|⟨t,c,rfl⟩
     ·have pG:=hid hrel.out.symm;have hz:((aA []).toList==[])=true:=by rw[ByteArray.toList_eq,aC];rfl
      clear hrel hm;go_wp2_with fail;go_ret;exact⟨by rw[pG.out];rfl,rfl⟩
     ·obtain⟨eG,rL,hk,e1,hg,he,hxz⟩:=vA t c hm;have nG:=Oq.out c;have Vz:t.length≤4000000000:=by simp at hm;omega
      have HX:=hid (show aA (t++[c])=aA (t++[c]) from rfl);cases hf:f c with
      |true=>
       rw[hf] at nG;have HN:=hid ((zT t hf).trans hrel.out);have HL:=hid (show(eB (.string (aA (t++[c])))).length=t.length+1 by simp[eB,aC]);have HT:=hid (show(eB (.string (aA t))).length=t.length by simp[eB,aC]);generalize aA (t++[c])=x at*;generalize t.length=k at*;have tN:=hid nG;clear hf hrel hm nG;go_wp2_with fail;refine(tN.out w).mono ?_;rintro e w' ⟨rfl,rfl⟩;go_wp2_with fail;go_roundw;case rel=>exact⟨t,rfl,by first|exact Vz|(have:=HT.out;simp[eB,aC] at this;omega),HN,trivial⟩
       case measure=>have h1:=HL.out;have h2:=HT.out;omega
      |false=>rw[hf] at nG;have HN:=hid ((zU t hf).symm.trans hrel.out);have HR:Hid (aA (t++[c])=aA (cE f l)):=hid (by rw[HN.out]);generalize aA (t++[c])=x at*;generalize t.length=k at*;have tN:=hid nG;clear hf hrel hm nG;go_wp2_with fail;refine(tN.out w).mono ?_;rintro e w' ⟨rfl,rfl⟩;go_wp2_with fail;go_ret;exact⟨Ms (by rw[←HR.out];rfl),rfl⟩
theorem GA (f:UInt8→Bool) (hF:∀(c:UInt8) (w:World),Calls Tryz.prog 64 #[.int .u8 (c.toNat:Int)] w fun e w'=>e= .returned (.bool (f c))∧w=w') (l:List UInt8) (w:World) (hl:l.length≤4000000000):
 Calls Tryz.prog 92 #[.string (aA l),.func (.func 64) #[] #[]] w fun e w'=>e= .returned (.string (aA (cE f l)))∧w=w':=by
 have Oq:=hid hF;clear hF;go_enter Tryz.func92,Tryz.ntmps92;go_wp2_with fail;go_loopw [0] (fun v wr=>∃m:List UInt8,v= .string (aA m)∧m.length≤4000000000∧Hid (m.dropWhile f=l.dropWhile f)∧w=wr) (fun v _=>(eB v).length);case atStart=>exact⟨l,rfl,hl,hid rfl,rfl⟩
 case round=>
  obtain⟨m,rfl,hm,hrel,rfl⟩:=hrel;cases m with
  |nil=>
   have Is:=hid (wF (f:=f) hrel.out rfl);have hz:((aA []).toList==[])=true:=by rw[ByteArray.toList_eq,aC];rfl
   clear hrel hm;go_wp2_with fail;clear hz;go_loopw [0] (fun v wr=>∃m:List UInt8,v= .string (aA m)∧m.length≤4000000000∧Hid (bS f m=cE f l)∧w=wr) (fun v _=>(eB v).length);case atStart=>exact⟨[],rfl,by simp,Is,rfl⟩
   case round=>
    obtain⟨m,rfl,hm,hrel,rfl⟩:=hrel;rcases sV m with rfl|⟨t,c,rfl⟩
    ·have pG:=hid hrel.out.symm;have hz:((aA []).toList==[])=true:=by rw[ByteArray.toList_eq,aC];rfl
     clear hrel hm;go_wp2_with fail;go_ret;exact⟨by rw[pG.out];rfl,rfl⟩
    ·obtain⟨eG,rL,hk,e1,hg,he,hxz⟩:=vA t c hm;have nG:=Oq.out c;have Vz:t.length≤4000000000:=by simp at hm;omega
     have HX:=hid (show aA (t++[c])=aA (t++[c]) from rfl);cases hf:f c with
     |true=>
      rw[hf] at nG;have HN:=hid ((zT t hf).trans hrel.out);have HL:=hid (show(eB (.string (aA (t++[c])))).length=t.length+1 by simp[eB,aC]);have HT:=hid (show(eB (.string (aA t))).length=t.length by simp[eB,aC]);generalize aA (t++[c])=x at*;generalize t.length=k at*;have tN:=hid nG;clear hf hrel hm nG;go_wp2_with fail;refine(tN.out w).mono ?_;rintro e w' ⟨rfl,rfl⟩;go_wp2_with fail;go_roundw;case rel=>exact⟨t,rfl,by first|exact Vz|(have:=HT.out;simp[eB,aC] at this;omega),HN,trivial⟩
      case measure=>have h1:=HL.out;have h2:=HT.out;omega
     |false=>rw[hf] at nG;have HN:=hid ((zU t hf).symm.trans hrel.out);have HR:Hid (aA (t++[c])=aA (cE f l)):=hid (by rw[HN.out]);generalize aA (t++[c])=x at*;generalize t.length=k at*;have tN:=hid nG;clear hf hrel hm nG;go_wp2_with fail;refine(tN.out w).mono ?_;rintro e w' ⟨rfl,rfl⟩;go_wp2_with fail;go_ret;exact⟨Ms (by rw[←HR.out];rfl),rfl⟩
  |cons c t=>
   obtain⟨eG,rL,hk,hg,he⟩:=wG t c;have nG:=Oq.out c;cases hf:f c with
   |true=>
    rw[hf] at nG;have HN:Hid (t.dropWhile f=l.dropWhile f):=hid (by rw[←hrel.out,List.dropWhile_cons,if_pos hf]);have Vz:t.length≤4000000000:=by simp at hm;omega
    have HL:=hid (show(eB (.string (aA (c::t)))).length=t.length+1 by simp[eB,aC]);have HT:=hid (show(eB (.string (aA t))).length=t.length by simp[eB,aC]);generalize aA (c::t)=x at*;have tN:=hid nG;clear hf hrel hm nG;go_wp2_with fail;refine(tN.out w).mono ?_;rintro e w' ⟨rfl,rfl⟩;go_wp2_with fail;go_roundw;case rel=>exact⟨t,rfl,Vz,HN,trivial⟩
    case measure=>have h1:=HL.out;have h2:=HT.out;omega
   |false=>
    rw[hf] at nG;have Is:=hid (wF (f:=f) hrel.out (by rw[List.dropWhile_cons,if_neg (by rw[hf];decide)]));have HM:=hid hm;generalize hx:aA (c::t)=x at*;have HX2:=hid hx;have tN:=hid nG;clear hf hrel hm nG hx;go_wp2_with fail;refine(tN.out w).mono ?_;rintro e w' ⟨rfl,rfl⟩;go_wp2_with fail;clear hg eG he hk tN;go_loopw [0] (fun v wr=>∃m:List UInt8,v= .string (aA m)∧m.length≤4000000000∧Hid (bS f m=cE f l)∧w=wr) (fun v _=>(eB v).length);case atStart=>exact⟨c::t,by rw[HX2.out],HM.out,Is,rfl⟩
    case round=>
     obtain⟨m,rfl,hm,hrel,rfl⟩:=hrel;rcases sV m with rfl|⟨t,c,rfl⟩
     ·have pG:=hid hrel.out.symm;have hz:((aA []).toList==[])=true:=by rw[ByteArray.toList_eq,aC];rfl
      clear hrel hm;go_wp2_with fail;go_ret;exact⟨by rw[pG.out];rfl,rfl⟩
     ·obtain⟨eG,rL,hk,e1,hg,he,hxz⟩:=vA t c hm;have nG:=Oq.out c;have Vz:t.length≤4000000000:=by simp at hm;omega
      have HX:=hid (show aA (t++[c])=aA (t++[c]) from rfl);cases hf:f c with
      |true=>
       rw[hf] at nG;have HN:=hid ((zT t hf).trans hrel.out);have HL:=hid (show(eB (.string (aA (t++[c])))).length=t.length+1 by simp[eB,aC]);have HT:=hid (show(eB (.string (aA t))).length=t.length by simp[eB,aC]);generalize aA (t++[c])=x at*;generalize t.length=k at*;have tN:=hid nG;clear hf hrel hm nG;go_wp2_with fail;refine(tN.out w).mono ?_;rintro e w' ⟨rfl,rfl⟩;go_wp2_with fail;go_roundw;case rel=>exact⟨t,rfl,by first|exact Vz|(have:=HT.out;simp[eB,aC] at this;omega),HN,trivial⟩
       case measure=>have h1:=HL.out;have h2:=HT.out;omega
      |false=>rw[hf] at nG;have HN:=hid ((zU t hf).symm.trans hrel.out);have HR:Hid (aA (t++[c])=aA (cE f l)):=hid (by rw[HN.out]);generalize aA (t++[c])=x at*;generalize t.length=k at*;have tN:=hid nG;clear hf hrel hm nG;go_wp2_with fail;refine(tN.out w).mono ?_;rintro e w' ⟨rfl,rfl⟩;go_wp2_with fail;go_ret;exact⟨Ms (by rw[←HR.out];rfl),rfl⟩
theorem RI (l:List UInt8) (w:World) (hl:l.length≤4000000000):Calls Tryz.prog 56 #[.string (aA l)] w fun e w'=>e= .returned (.string (aA (cE On l)))∧w=w':=by have H:=hid (Gz On Oo l w hl);go_enter Tryz.func56,Tryz.ntmps56;go_wp2_with fail;refine(H.out).mono ?_;rintro e w' ⟨rfl,rfl⟩;go_wp2_with fail;go_ret;exact⟨rfl,rfl⟩
theorem Ot (l:List UInt8) (w:World) (hl:l.length≤4000000000):Calls Tryz.prog 104 #[.string (aA l)] w fun e w'=>e= .returned (.string (aA (cE aI l)))∧w=w':=by have H:=hid (GA aI mF l w hl);go_enter Tryz.func104,Tryz.ntmps104;go_wp2_with fail;refine(H.out).mono ?_;rintro e w' ⟨rfl,rfl⟩;go_wp2_with fail;go_ret;exact⟨rfl,rfl⟩
end Go.Proofs.YtmgmclkplepapaaGreatDoor
