/- Part of the proof of TopBoundsUptoCardSaid. Conditions: none beyond the statement. -/
import Derived.Test.YtmgmclkplepapaaGreatDoorPt19
set_option linter.all false
set_option maxRecDepth 100000
set_option maxHeartbeats 64000000
namespace Go.Proofs.YtmgmclkplepapaaGreatDoor
open Go.RowKit
theorem Bj (p:List UInt8) (hp:p.length≤100000000) (w:World):
 Calls Tryz.prog 140 #[.string (aA p),.int .i64 4] w fun e w'=>e= .returned (.string (aA (vP 4 p)))∧Below w.heap.size w w':=by
 have:=DG (aA p) 4 w (by rw[aD];omega);rw[aC] at this;exact this
theorem pV (p:List UInt8) (b:Bool) (hb:vE p=b) (hs:p.length≤100000000) (w:World):
 Calls Tryz.prog 178 #[.string (aA p)] w fun e w'=>e= .returned (.bool b)∧Below w.heap.size w w':=Si _ b (by rw[aC];exact hb) (by rw[aD];omega) w
theorem yF (p:List UInt8) (b:Bool) (hb:Cb p=b) (hs:p.length≤100000000) (w:World):
 Calls Tryz.prog 180 #[.string (aA p)] w fun e w'=>e= .returned (.bool b)∧Below w.heap.size w w':=V1 _ b (by rw[aC];exact hb) (by rw[aD];omega) w
theorem II (p:List UInt8) (b:Bool) (hb:jN p=b) (w:World):
 Calls Tryz.prog 175 #[.string (aA p)] w fun e w'=>e= .returned (.bool b)∧w=w':=O3 _ b (by rw[aC];exact hb) w
theorem FM (L:List (List UInt8)):(L++[[]]).map aA=L.map aA++[⟨#[]⟩]:=by simp[aA]
theorem DI (L:List (List UInt8)) (p:List UInt8):(L++[p]).map aA=L.map aA++[aA p]:=by simp
theorem V5 {p:List UInt8} (h:jN p=true):p.length=2:=by
 unfold jN at h
 match p with
 |[]=>simp at h
 |[_]=>simp at h
 |[_,_]=>rfl
 |_::_::_::_=>simp at h
theorem YY {p:List UInt8} (h:p.length=2):(aA p).extract 0 1++⟨#[58]⟩=aA (p.take 1++[58]):=by
 match p with
 |[a,b]=>rfl
theorem Pb (s:ByteArray) (v:Value) (l:List (List UInt8)) (t:ByteArray) (w:World) (hv:bT w v (l.map aA)) (hl:l.length≤100000000) (ht:t.size≤100000000):
 Calls Tryz.prog 137 #[.string s,v,.string t] w fun e w'=>∃v',e= .returned v'∧fN w' w.heap.size v' ((Ek bX (jT s) l (dU (aV s) t.data.toList)).map aA)∧Below w.heap.size w w':=by
 have hP0:=LR (aV s) t.data.toList;have hPl:=YX (aV s) t.data.toList;have hPp:=Sk (aV s) t.data.toList;have hSC:=O4 t (aV s) w (by omega);generalize dU (aV s) t.data.toList=P at*;have As:t.data.toList.length=t.size:=by simp
 rw[As] at hPl hPp;have HP0:=hid hP0;have HPp:=hid hPp;have HV:=hid hv;have HSC:=hid hSC;clear hP0 hPp As hv hSC;go_enter Tryz.func137,Tryz.ntmps137;go_wp2_with fail;refine(jS _ _).mono ?_;rintro e w' ⟨rfl,rfl⟩;go_wp2_with fail;refine HSC.out.mono ?_;rintro e w1 ⟨v1,rfl,ho1,eN⟩;obtain⟨A1,c1,Dy,Od⟩:=ho1.read.len;rw[List.length_map] at Dy Od;subst Dy;have HO1:=hid ho1.read;have Cn:=hid eN;clear ho1 eN;go_wp2_with fail;refine(FL v _ w1 (HV.out.below Cn.out) (by simp;omega)).mono ?_;rintro e w2 ⟨v2,rfl,Us,dE⟩;have HO2:=hid Us;have cK:=hid dE;clear Us dE;go_wp2_with fail;go_loopw [8,20] (fun out i wr=>∃k:Nat,k≤P.length∧i= .int .i64 k∧fN wr w1.heap.size out ((kI (jT s) l P k).map aA)∧Below w1.heap.size w1 wr) (fun _ i _=>P.length - (intOf i).toNat);case atStart=>exact⟨0,Nat.zero_le _,rfl,by rw[O7 _ _ _ HP0.out];exact HO2.out,cK.out⟩
 case round=>
  obtain⟨k,hk,rfl,bE,dB⟩:=hrel;obtain⟨A2,c2,Yp,Gm⟩:=bE.read.len;have HO:=hid bE;have HB:=hid dB;clear bE dB;by_cases bC:k < P.length
  ·obtain⟨g,off,hA,aW⟩:=(HO1.out.below HB.out).cellAt (k:=k) (by rw[List.length_map];exact bC);rw[List.getElem_map] at aW;have hlen:=V3 (jT s) l P k bC;rw[List.length_map] at Yp Gm;subst Yp;subst hA;have Pc:Hid ((P[k]).length≤100000000):=hid (by have:=HPp.out P[k] (List.getElem_mem bC);omega);have HSx:Hid ((kI (jT s) l P k).length≤300000000):=hid (by omega);clear hlen;cases h1:vE P[k]
   ·cases h2:Cb P[k]
    ·have H1:=hid h1;have H2:=hid h2;clear h1 h2;cases hf:(s.toList==[102,105,108,101])
     ·have HN:=hid (ES (file:=jT s) (out:=l) bC H1.out H2.out (by show((s.toList==[102,105,108,101])&&_)=false;rw[hf];rfl));go_wp2_with fail;refine(pV _ _ H1.out Pc.out _).mono ?_;rintro e w3 ⟨rfl,cF⟩;have vD:=aR HB cF;have Pd:=hid (HO.out.below cF);clear cF;go_wp2_with fail;refine(yF _ _ H2.out Pc.out _).mono ?_;rintro e w4 ⟨rfl,cG⟩;have fG:=aR vD cG;have Sl:=hid (Pd.out.below cG);clear cG;go_wp2_with fail;refine(Bj _ Pc.out _).mono ?_;rintro e w6 ⟨rfl,fH⟩;have Eg:=aR fG fH;have HO6:=hid (Sl.out.below fH);clear fH;go_wp2_with (at_builtin;refine bO rfl _ _ rfl rfl (HO6.out.below (iS _ _)) rfl (bT.one _ _) (by have:=HSx.out;simp<;>omega) (Nat.le_trans Eg.out.size (by simp)) ?_;intro v8 w8 MD rB;have Ha:=hid (Eg.out.trans (((Below.refl w1.heap.size _).alloc Eg.out.size _).trans rB));have Km:=hid MD;clear rB MD);go_roundw;case rel=>exact⟨k+1,by omega,by go_num,by rw[HN.out];exact by rw[DI];exact Km.out,Ha.out⟩
      case measure=>simp[intOf];omega
     ·by_cases h0:(kI (jT s) l P k).length=0
      ·have zW:(kI (jT s) l P k).isEmpty=true:=by rw[List.isEmpty_iff];exact List.length_eq_zero_iff.1 h0
       have hz:(((kI (jT s) l P k).length:Int)==0)=true:=by rw[beq_iff_eq];omega
       have Bd:=hid h0;clear h0;cases h3:jN P[k]
       ·have HN:=hid (ES (file:=jT s) (out:=l) bC H1.out H2.out (by rw[zW,h3];simp));have H3:=hid h3;clear h3 zW;go_wp2_with fail;refine(pV _ _ H1.out Pc.out _).mono ?_;rintro e w3 ⟨rfl,cF⟩;have vD:=aR HB cF;have Pd:=hid (HO.out.below cF);clear cF;go_wp2_with fail;refine(yF _ _ H2.out Pc.out _).mono ?_;rintro e w4 ⟨rfl,cG⟩;have fG:=aR vD cG;have Sl:=hid (Pd.out.below cG);clear cG;go_wp2_with fail;refine(II _ _ H3.out _).mono ?_;rintro e w5 ⟨rfl,rfl⟩;go_wp2_with fail;refine(Bj _ Pc.out _).mono ?_;rintro e w6 ⟨rfl,fH⟩;have Eg:=aR fG fH;have HO6:=hid (Sl.out.below fH);clear fH;go_wp2_with (at_builtin;refine bO rfl _ _ rfl rfl (HO6.out.below (iS _ _)) rfl (bT.one _ _) (by have:=HSx.out;simp<;>omega) (Nat.le_trans Eg.out.size (by simp)) ?_;intro v8 w8 MD rB;have Ha:=hid (Eg.out.trans (((Below.refl w1.heap.size _).alloc Eg.out.size _).trans rB));have Km:=hid MD;clear rB MD);go_roundw;case rel=>exact⟨k+1,by omega,by go_num,by rw[HN.out];exact by rw[DI];exact Km.out,Ha.out⟩
        case measure=>simp[intOf];omega
       ·have HN:=hid (O9 (file:=jT s) (out:=l) bC H1.out H2.out (by show((s.toList==[102,105,108,101])&&_)=true;rw[hf,zW,h3];rfl));have H3:=hid h3;have h2z:=V5 h3;have HC:=hid (YY h2z);have iW:1≤(aA P[k]).size:=by rw[aD];omega
        clear h3 zW h2z;go_wp2_with fail;refine(pV _ _ H1.out Pc.out _).mono ?_;rintro e w3 ⟨rfl,cF⟩;have vD:=aR HB cF;have Pd:=hid (HO.out.below cF);clear cF;go_wp2_with fail;refine(yF _ _ H2.out Pc.out _).mono ?_;rintro e w4 ⟨rfl,cG⟩;have fG:=aR vD cG;have Sl:=hid (Pd.out.below cG);clear cG;go_wp2_with fail;refine(II _ _ H3.out _).mono ?_;rintro e w5 ⟨rfl,rfl⟩;go_wp2_with (at_builtin;refine bO rfl _ _ rfl rfl (Sl.out.below (iS _ _)) rfl (bT.one _ _) (by have:=HSx.out;simp<;>omega) (Nat.le_trans fG.out.size (by simp)) ?_;intro v8 w8 MD rB;have Ha:=hid (fG.out.trans (((Below.refl w1.heap.size _).alloc fG.out.size _).trans rB));have Km:=hid MD;clear rB MD);go_roundw;case rel=>exact⟨k+1,by omega,by go_num,by rw[HN.out];exact by rw[DI,←HC.out];exact Km.out,Ha.out⟩
        case measure=>simp[intOf];omega
      ·have zW:(kI (jT s) l P k).isEmpty=false:=by rw[Bool.eq_false_iff];intro e;rw[List.isEmpty_iff] at e;rw[e] at h0;exact h0 rfl
       have hz:(((kI (jT s) l P k).length:Int)==0)=false:=by rw[beq_eq_false_iff_ne];omega
       have Bd:=hid h0;clear h0;have HN:=hid (ES (file:=jT s) (out:=l) bC H1.out H2.out (by rw[zW];simp));clear zW;go_wp2_with fail;refine(pV _ _ H1.out Pc.out _).mono ?_;rintro e w3 ⟨rfl,cF⟩;have vD:=aR HB cF;have Pd:=hid (HO.out.below cF);clear cF;go_wp2_with fail;refine(yF _ _ H2.out Pc.out _).mono ?_;rintro e w4 ⟨rfl,cG⟩;have fG:=aR vD cG;have Sl:=hid (Pd.out.below cG);clear cG;go_wp2_with fail;refine(Bj _ Pc.out _).mono ?_;rintro e w6 ⟨rfl,fH⟩;have Eg:=aR fG fH;have HO6:=hid (Sl.out.below fH);clear fH;go_wp2_with (at_builtin;refine bO rfl _ _ rfl rfl (HO6.out.below (iS _ _)) rfl (bT.one _ _) (by have:=HSx.out;simp<;>omega) (Nat.le_trans Eg.out.size (by simp)) ?_;intro v8 w8 MD rB;have Ha:=hid (Eg.out.trans (((Below.refl w1.heap.size _).alloc Eg.out.size _).trans rB));have Km:=hid MD;clear rB MD);go_roundw;case rel=>exact⟨k+1,by omega,by go_num,by rw[HN.out];exact by rw[DI];exact Km.out,Ha.out⟩
       case measure=>simp[intOf];omega
    ·by_cases he:k+1=P.length
     ·have HN:=hid (Lf (file:=jT s) (out:=l) bC h1 h2);rw[if_pos he] at HN;have hq:((k:Int)==(P.length:Int) - 1)=true:=by simp;omega
      have H1:=hid h1;have H2:=hid h2;clear h1 h2;go_wp2_with fail;refine(pV _ _ H1.out Pc.out _).mono ?_;rintro e w3 ⟨rfl,cF⟩;have vD:=aR HB cF;have Pd:=hid (HO.out.below cF);clear cF;go_wp2_with fail;refine(yF _ _ H2.out Pc.out _).mono ?_;rintro e w4 ⟨rfl,cG⟩;have fG:=aR vD cG;have Sl:=hid (Pd.out.below cG);clear cG;go_wp2_with (at_builtin;refine bO rfl _ _ rfl rfl (Sl.out.below (iS _ _)) rfl (bT.one _ _) (by have:=HSx.out;simp<;>omega) (Nat.le_trans fG.out.size (by simp)) ?_;intro v8 w8 MD rB;have Ha:=hid (fG.out.trans (((Below.refl w1.heap.size _).alloc fG.out.size _).trans rB));have Km:=hid MD;clear rB MD);go_roundw;case rel=>exact⟨k+1,by omega,by go_num,by rw[HN.out];exact by rw[FM];exact Km.out,Ha.out⟩
      case measure=>simp[intOf];omega
     ·have HN:=hid (Lf (file:=jT s) (out:=l) bC h1 h2);rw[if_neg he,List.append_nil] at HN;have hq:((k:Int)==(P.length:Int) - 1)=false:=by simp;omega
      have H1:=hid h1;have H2:=hid h2;clear h1 h2;go_wp2_with fail;refine(pV _ _ H1.out Pc.out _).mono ?_;rintro e w3 ⟨rfl,cF⟩;have vD:=aR HB cF;have Pd:=hid (HO.out.below cF);clear cF;go_wp2_with fail;refine(yF _ _ H2.out Pc.out _).mono ?_;rintro e w4 ⟨rfl,cG⟩;have fG:=aR vD cG;have Sl:=hid (Pd.out.below cG);clear cG;go_wp2_with fail;go_roundw;case rel=>exact⟨k+1,by omega,by go_num,by rw[HN.out];exact Sl.out,fG.out⟩
      case measure=>simp[intOf];omega
   ·by_cases he:k+1=P.length
    ·have HN:=hid (IH (file:=jT s) (out:=l) bC h1);rw[if_pos he] at HN;have hq:((k:Int)==(P.length:Int) - 1)=true:=by simp;omega
     have H1:=hid h1;clear h1;go_wp2_with fail;refine(pV _ _ H1.out Pc.out _).mono ?_;rintro e w3 ⟨rfl,cF⟩;have vD:=aR HB cF;have Pd:=hid (HO.out.below cF);clear cF;go_wp2_with fail;refine(O6 s _ _ w1.heap.size _ Pd.out (by rw[List.length_map];have:=HSx.out;omega)).mono ?_;rintro e w4 ⟨v4,rfl,ho4,cG⟩;rw[Bi] at ho4;obtain⟨A4,c4,hv4,hc4⟩:=ho4.read.len;rw[List.length_map] at hv4 hc4;subst hv4;have fG:=aR vD cG;have Sl:=hid ho4;have HU:Hid ((TY bX (jT s) (kI (jT s) l P k)).length≤300000000):=hid (by have:=LU bX (jT s) (kI (jT s) l P k);have:=HSx.out;omega);clear cG ho4;go_wp2_with (at_builtin;refine bO rfl _ _ rfl rfl (Sl.out.below (iS _ _)) rfl (bT.one _ _) (by have:=HU.out;simp<;>omega) (Nat.le_trans fG.out.size (by simp)) ?_;intro v8 w8 MD rB;have Ha:=hid (fG.out.trans (((Below.refl w1.heap.size _).alloc fG.out.size _).trans rB));have Km:=hid MD;clear rB MD);go_roundw;case rel=>exact⟨k+1,by omega,by go_num,by rw[HN.out];exact by rw[FM];exact Km.out,Ha.out⟩
     case measure=>simp[intOf];omega
    ·have HN:=hid (IH (file:=jT s) (out:=l) bC h1);rw[if_neg he,List.append_nil] at HN;have hq:((k:Int)==(P.length:Int) - 1)=false:=by simp;omega
     have H1:=hid h1;clear h1;go_wp2_with fail;refine(pV _ _ H1.out Pc.out _).mono ?_;rintro e w3 ⟨rfl,cF⟩;have vD:=aR HB cF;have Pd:=hid (HO.out.below cF);clear cF;go_wp2_with fail;refine(O6 s _ _ w1.heap.size _ Pd.out (by rw[List.length_map];have:=HSx.out;omega)).mono ?_;rintro e w4 ⟨v4,rfl,ho4,cG⟩;rw[Bi] at ho4;obtain⟨A4,c4,hv4,hc4⟩:=ho4.read.len;rw[List.length_map] at hv4 hc4;subst hv4;have fG:=aR vD cG;have Sl:=hid ho4;have HU:Hid ((TY bX (jT s) (kI (jT s) l P k)).length≤300000000):=hid (by have:=LU bX (jT s) (kI (jT s) l P k);have:=HSx.out;omega);clear cG ho4;go_wp2_with fail;go_roundw;case rel=>exact⟨k+1,by omega,by go_num,by rw[HN.out];exact Sl.out,fG.out⟩
     case measure=>simp[intOf];omega
  ·obtain rfl:k=P.length:=by omega
   rw[V2] at HO Yp Gm;subst Yp;go_wp2_with fail;go_ret;exact⟨_,rfl,HO.out.mono (Cn.out.size),Cn.out.trans (HB.out.mono Cn.out.size)⟩
theorem agT (a0 a1 a2 a3 a4 a5 a6 a7 c0 c1 c2 c3 c4 c5 c6 c7:Int) (w:World):
 (Op.equalIn 9999 30 (.agg #[.int .u16 a0,.int .u16 a1,.int .u16 a2,.int .u16 a3,.int .u16 a4,.int .u16 a5,.int .u16 a6,.int .u16 a7]) (.agg #[.int .u16 c0,.int .u16 c1,.int .u16 c2,.int .u16 c3,.int .u16 c4,.int .u16 c5,.int .u16 c6,.int .u16 c7])).run Tryz.prog w=
   .ok (a0==c0&&(a1==c1&&(a2==c2&&(a3==c3&&(a4==c4&&(a5==c5&&(a6==c6&&a7==c7))))))) w:=by
 have u3:=Tryz.underlying29;have ha3:=Tryz.isAgg29;have z3:=Tryz.sizeOf29;rw[show(9999:Nat)=9998+1 from rfl,Op.equalIn];simp only[Sem.run_bind,run_underlying Tryz.underlying30,Result.andThen_ok];simp only[Std.Legacy.Range.forIn_eq_forIn_range',Std.Legacy.Range.size,Nat.sub_zero,Nat.add_sub_cancel,Nat.div_one,List.range'_succ,List.range'_zero,List.forIn_cons,List.forIn_nil];go_simp;by_cases h0:a0=c0
 ·by_cases h1:a1=c1
  ·by_cases h2:a2=c2
   ·by_cases h3:a3=c3
    ·by_cases h4:a4=c4
     ·by_cases h5:a5=c5
      ·by_cases h6:a6=c6;·by_cases h7:a7=c7<;>simp[h0,h1,h2,h3,h4,h5,h6,h7]
       ·simp[h0,h1,h2,h3,h4,h5,h6]
      ·simp[h0,h1,h2,h3,h4,h5]
     ·simp[h0,h1,h2,h3,h4]
    ·simp[h0,h1,h2,h3]
   ·simp[h0,h1,h2]
  ·simp[h0,h1]
 ·simp[h0]
theorem acY (k f k' f':Int) (n n':ByteArray) (a0 a1 a2 a3 a4 a5 a6 a7 c0 c1 c2 c3 c4 c5 c6 c7:Int) (w:World):
 (Op.equalIn 10000 32 (.agg #[.int .i64 k,.string n,.int .u32 f,.int .u16 a0,.int .u16 a1,.int .u16 a2,.int .u16 a3,.int .u16 a4,.int .u16 a5,.int .u16 a6,.int .u16 a7]) (.agg #[.int .i64 k',.string n',.int .u32 f',.int .u16 c0,.int .u16 c1,.int .u16 c2,.int .u16 c3,.int .u16 c4,.int .u16 c5,.int .u16 c6,.int .u16 c7])).run Tryz.prog w=
   .ok (k==k'&&(n.toList==n'.toList&&(f==f'&&(a0==c0&&(a1==c1&&(a2==c2&&(a3==c3&&(a4==c4&&(a5==c5&&(a6==c6&&a7==c7)))))))))) w:=by
 have u1:=Tryz.underlying3;have a1':=Tryz.isAgg3;have z1:=Tryz.sizeOf3;have u2:=Tryz.underlying9;have a2':=Tryz.isAgg9;have z2:=Tryz.sizeOf9;have u3:=Tryz.underlying28;have a3':=Tryz.isAgg28;have z3:=Tryz.sizeOf28;have a4':=Tryz.isAgg30;have z4:=Tryz.sizeOf30;have h8:=agT a0 a1 a2 a3 a4 a5 a6 a7 c0 c1 c2 c3 c4 c5 c6 c7;have hS:Tryz.prog.underlying 32=some (.struct (Tryz.prog.fieldsOf 32)):=by kernel_rfl
 rw[show(10000:Nat)=9999+1 from rfl,run_equalIn_agg w 9999 32 _ _ hS (by kernel_rfl)];simp only[Program.fieldsOf,Tryz.underlying32];go_simp;by_cases e1:k=k'
 ·by_cases e2:n.toList=n'.toList
  ·by_cases e3:f=f';·simp[e1,e2,e3,h8,Result.andThen];cases (a0==c0&&(a1==c1&&(a2==c2&&(a3==c3&&(a4==c4&&(a5==c5&&(a6==c6&&a7==c7)))))))<;>rfl
   ·simp[e1,e2,e3]
  ·simp[e1,e2]
 ·simp[e1]
end Go.Proofs.YtmgmclkplepapaaGreatDoor
