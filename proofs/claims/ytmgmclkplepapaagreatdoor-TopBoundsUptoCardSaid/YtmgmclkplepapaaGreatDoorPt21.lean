/- Part of the proof of TopBoundsUptoCardSaid. Conditions: none beyond the statement. -/
import Derived.Lib.TrailingZeros
import Derived.Test.YtmgmclkplepapaaGreatDoorPt3
import Derived.Test.YtmgmclkplepapaaGreatDoorPt20
set_option linter.all false
set_option maxRecDepth 100000
set_option maxHeartbeats 64000000
namespace Go.Proofs.YtmgmclkplepapaaGreatDoor
open Go.RowKit
structure Url where
 scheme:ByteArray
 user:ByteArray
 pass:ByteArray
 kind:Int
 name:ByteArray
 four:Int
 x0:Int
 x1:Int
 x2:Int
 x3:Int
 x4:Int
 x5:Int
 x6:Int
 x7:Int
 hasPort:Bool
 port:Int
 opq:Bool
 flat:ByteArray
 YZ:Value
 path:List ByteArray
 hasQuery:Bool
 query:ByteArray
 hasFrag:Bool
 frag:ByteArray
def Url.val (u:Url):Value:=
 .agg #[.string u.scheme,.string u.user,.string u.pass,.int .i64 u.kind,.string u.name,.int .u32 u.four,.int .u16 u.x0,.int .u16 u.x1,.int .u16 u.x2,.int .u16 u.x3,.int .u16 u.x4,.int .u16 u.x5,.int .u16 u.x6,.int .u16 u.x7,
  .bool u.hasPort,.int .i64 u.port,.bool u.opq,.string u.flat,u.YZ,.bool u.hasQuery,.string u.query,.bool u.hasFrag,.string u.frag]
def Url.same (u v:Url):Bool:=
 u.scheme.toList==v.scheme.toList&&(u.user.toList==v.user.toList&&(u.pass.toList==v.pass.toList&&(u.kind==v.kind&&(u.name.toList==v.name.toList&&(u.four==v.four&&
 (u.x0==v.x0&&(u.x1==v.x1&&(u.x2==v.x2&&(u.x3==v.x3&&(u.x4==v.x4&&(u.x5==v.x5&&(u.x6==v.x6&&(u.x7==v.x7&&(u.hasPort==v.hasPort&&(u.port==v.port&&(u.opq==v.opq&&(u.flat.toList==v.flat.toList&&
 (decide (u.path=v.path)&&(u.hasQuery==v.hasQuery&&(u.query.toList==v.query.toList&&(u.hasFrag==v.hasFrag&&u.frag.toList==v.frag.toList)))))))))))))))))))))
theorem tP (w:World) (o o':Obj):Below w.heap.size w ((w.alloc o).alloc o'):=((Below.refl _ _).alloc (Nat.le_refl _) o).alloc (by simp) o'
set_option maxRecDepth 1000000000 in
theorem Sm (u v:Url) (w:World) (hu:bT w u.YZ u.path) (hv:bT w v.YZ v.path) (Pe:u.path.length≤1000000000) (Ut:v.path.length≤1000000000):
 Calls Tryz.prog 32 #[u.val,v.val] w fun e w'=>e= .returned (.bool (u.same v))∧Below w.heap.size w w':=by
 obtain⟨A,c,hA,hc⟩:=hu.len;obtain⟨B,d,hB,hd⟩:=hv.len;obtain⟨a0,a1,a2,ah,an,af,s0,s1,s2,s3,s4,s5,s6,s7,ao,ap,aq,ag,av,al,ai,aj,ak,am⟩:=u;obtain⟨b0,b1,b2,bh,bn,bf,t0,t1,t2,t3,t4,t5,t6,t7,bo,bp,bq,bg,bv,bl,bi,bj,bk,bm⟩:=v;simp only[] at hA hB hc hd Pe Ut hu hv;subst hA hB;simp only[Url.val];have hh:=fun W=>acY ah af bh bf an bn s0 s1 s2 s3 s4 s5 s6 s7 t0 t1 t2 t3 t4 t5 t6 t7 W;generalize hhb:(ah==bh&&(an.toList==bn.toList&&(af==bf&&(s0==t0&&(s1==t1&&(s2==t2&&(s3==t3&&(s4==t4&&(s5==t5&&(s6==t6&&s7==t7))))))))))=hq at hh;have HH:=hid hhb;clear hhb;have afL:Url.same ⟨a0,a1,a2,ah,an,af,s0,s1,s2,s3,s4,s5,s6,s7,ao,ap,aq,ag,.slice A al.length c,al,ai,aj,ak,am⟩ ⟨b0,b1,b2,bh,bn,bf,t0,t1,t2,t3,t4,t5,t6,t7,bo,bp,bq,bg,.slice B bl.length d,bl,bi,bj,bk,bm⟩=
  (a0.toList==b0.toList&&(a1.toList==b1.toList&&(a2.toList==b2.toList&&(hq&&(ao==bo&&(ap==bp&&(aq==bq&&(ag.toList==bg.toList&&(decide (al=bl)&&(ai==bi&&(aj.toList==bj.toList&&(ak==bk&&am.toList==bm.toList)))))))))))):=by rw[←HH.out];simp[Url.same,Bool.and_assoc]
 rw[afL];clear afL;obtain⟨rv,Uu⟩:∃rv,Hid (rv=(a0.toList==b0.toList&&(a1.toList==b1.toList&&(a2.toList==b2.toList&&(hq&&(ao==bo&&(ap==bp&&(aq==bq&&(ag.toList==bg.toList&&(decide (al=bl)&&(ai==bi&&(aj.toList==bj.toList&&(ak==bk&&am.toList==bm.toList))))))))))))):=⟨_,hid rfl⟩;rw[←Uu.out];have HU:=hid hu;have HV:=hid hv;clear hu hv HH;go_enter Tryz.func32,Tryz.ntmps32;go_upto_region 1 with(fail)
 simp only[List.append_eq,List.cons_append,List.nil_append];apply wp_region_lit;iterate 6 (refine bF rfl ?_;intro K hK;go_simp;refine hK _ _ ?_;clear hK K)
 cases e0:(a0.toList==b0.toList);·refine fM 94 10 false 4 false rfl rfl (by kernel_rfl) ?_;intro a9 IJ IK;go_wp2_with fail;exact eT rfl IK IJ ⟨by rw[Uu.out,e0];rfl,tP _ _ _⟩
 have E0:=hid e0;clear e0;iterate 7 (refine bF rfl ?_;intro K hK;go_simp;refine hK _ _ ?_;clear hK K)
 cases e1:(a1.toList==b1.toList);·refine fM 94 17 false 4 false rfl rfl (by kernel_rfl) ?_;intro a9 IJ IK;go_wp2_with fail;exact eT rfl IK IJ ⟨by rw[Uu.out,E0.out,e1];simp only[Bool.true_and,Bool.false_and],tP _ _ _⟩
 have E1:=hid e1;clear e1;iterate 7 (refine bF rfl ?_;intro K hK;go_simp;refine hK _ _ ?_;clear hK K)
 cases e2:(a2.toList==b2.toList);·refine fM 94 24 false 4 false rfl rfl (by kernel_rfl) ?_;intro a9 IJ IK;go_wp2_with fail;exact eT rfl IK IJ ⟨by rw[Uu.out,E0.out,E1.out,e2];simp only[Bool.true_and,Bool.false_and],tP _ _ _⟩
 have E2:=hid e2;clear e2;iterate 7 (refine bF rfl ?_;intro K hK;go_simp;refine hK _ _ ?_;clear hK K)
 cases e3:(hq);·refine fM 94 31 false 4 false rfl rfl (by kernel_rfl) ?_;intro a9 IJ IK;go_wp2_with fail;exact eT rfl IK IJ ⟨by rw[Uu.out,E0.out,E1.out,E2.out,e3];simp only[Bool.true_and,Bool.false_and],tP _ _ _⟩
 have E3:=hid e3;clear e3;iterate 7 (refine bF rfl ?_;intro K hK;go_simp;refine hK _ _ ?_;clear hK K)
 cases e4:(ao==bo);·refine fM 94 38 false 4 false rfl rfl (by kernel_rfl) ?_;intro a9 IJ IK;go_wp2_with fail;exact eT rfl IK IJ ⟨by rw[Uu.out,E0.out,E1.out,E2.out,E3.out,e4];simp only[Bool.true_and,Bool.false_and],tP _ _ _⟩
 have E4:=hid e4;clear e4;iterate 7 (refine bF rfl ?_;intro K hK;go_simp;refine hK _ _ ?_;clear hK K)
 cases e5:(ap==bp);·refine fM 94 45 false 4 false rfl rfl (by kernel_rfl) ?_;intro a9 IJ IK;go_wp2_with fail;exact eT rfl IK IJ ⟨by rw[Uu.out,E0.out,E1.out,E2.out,E3.out,E4.out,e5];simp only[Bool.true_and,Bool.false_and],tP _ _ _⟩
 have E5:=hid e5;clear e5;iterate 7 (refine bF rfl ?_;intro K hK;go_simp;refine hK _ _ ?_;clear hK K)
 cases e6:(aq==bq);·refine fM 94 52 false 4 false rfl rfl (by kernel_rfl) ?_;intro a9 IJ IK;go_wp2_with fail;exact eT rfl IK IJ ⟨by rw[Uu.out,E0.out,E1.out,E2.out,E3.out,E4.out,E5.out,e6];simp only[Bool.true_and,Bool.false_and],tP _ _ _⟩
 have E6:=hid e6;clear e6;iterate 7 (refine bF rfl ?_;intro K hK;go_simp;refine hK _ _ ?_;clear hK K)
 cases e7:(ag.toList==bg.toList);·refine fM 94 59 false 4 false rfl rfl (by kernel_rfl) ?_;intro a9 IJ IK;go_wp2_with fail;exact eT rfl IK IJ ⟨by rw[Uu.out,E0.out,E1.out,E2.out,E3.out,E4.out,E5.out,E6.out,e7];simp only[Bool.true_and,Bool.false_and],tP _ _ _⟩
 have E7:=hid e7;clear e7;iterate 4 (refine bF rfl ?_;intro K hK;go_simp;refine hK _ _ ?_;clear hK K)
 refine bF rfl ?_;intro K hK;go_simp;go_at_call 59;refine(O5 _ _ al bl _ (HU.out.below (tP _ _ _)) (HV.out.below (tP _ _ _)) Pe Ut).mono ?_;rintro e w2 ⟨rfl,dB⟩;refine hK _ _ ?_;clear hK K;have hbz:=hid (Below.trans (tP w _ _) (dB.mono (tP w _ _).size));have apQ:w2.cell? ⟨w.heap.size,19,none⟩=_:=(dB.cell (p:=⟨w.heap.size,19,none⟩) (by simp<;>omega)).trans (Me w _ _ _ 19 _ rfl);have apR:w2.cell? ⟨w.heap.size+1,19,none⟩=_:=(dB.cell (p:=⟨w.heap.size+1,19,none⟩) (by simp)).trans (Mf w _ _ _ 19 _ rfl);have apS:w2.cell? ⟨w.heap.size,20,none⟩=_:=(dB.cell (p:=⟨w.heap.size,20,none⟩) (by simp<;>omega)).trans (Me w _ _ _ 20 _ rfl);have apT:w2.cell? ⟨w.heap.size+1,20,none⟩=_:=(dB.cell (p:=⟨w.heap.size+1,20,none⟩) (by simp)).trans (Mf w _ _ _ 20 _ rfl);have apU:w2.cell? ⟨w.heap.size,21,none⟩=_:=(dB.cell (p:=⟨w.heap.size,21,none⟩) (by simp<;>omega)).trans (Me w _ _ _ 21 _ rfl);have apV:w2.cell? ⟨w.heap.size+1,21,none⟩=_:=(dB.cell (p:=⟨w.heap.size+1,21,none⟩) (by simp)).trans (Mf w _ _ _ 21 _ rfl);have apW:w2.cell? ⟨w.heap.size,22,none⟩=_:=(dB.cell (p:=⟨w.heap.size,22,none⟩) (by simp<;>omega)).trans (Me w _ _ _ 22 _ rfl);have apX:w2.cell? ⟨w.heap.size+1,22,none⟩=_:=(dB.cell (p:=⟨w.heap.size+1,22,none⟩) (by simp)).trans (Mf w _ _ _ 22 _ rfl);clear dB;iterate 2 (refine bF rfl ?_;intro K hK;go_simp;refine hK _ _ ?_;clear hK K)
 cases e8:(decide (al=bl));·refine fM 94 66 false 4 false rfl rfl (by kernel_rfl) ?_;intro a9 IJ IK;go_wp2_with fail;exact eT rfl IK IJ ⟨by rw[Uu.out,E0.out,E1.out,E2.out,E3.out,E4.out,E5.out,E6.out,E7.out,e8];simp only[Bool.true_and,Bool.false_and],hbz.out⟩
 have E8:=hid e8;clear e8;iterate 7 (refine bF rfl ?_;intro K hK;go_simp;refine hK _ _ ?_;clear hK K)
 cases e9:(ai==bi);·refine fM 94 73 false 4 false rfl rfl (by kernel_rfl) ?_;intro a9 IJ IK;go_wp2_with fail;exact eT rfl IK IJ ⟨by rw[Uu.out,E0.out,E1.out,E2.out,E3.out,E4.out,E5.out,E6.out,E7.out,E8.out,e9];simp only[Bool.true_and,Bool.false_and],hbz.out⟩
 have E9:=hid e9;clear e9;iterate 7 (refine bF rfl ?_;intro K hK;go_simp;refine hK _ _ ?_;clear hK K)
 cases e10:(aj.toList==bj.toList);·refine fM 94 80 false 4 false rfl rfl (by kernel_rfl) ?_;intro a9 IJ IK;go_wp2_with fail;exact eT rfl IK IJ ⟨by rw[Uu.out,E0.out,E1.out,E2.out,E3.out,E4.out,E5.out,E6.out,E7.out,E8.out,E9.out,e10];simp only[Bool.true_and,Bool.false_and],hbz.out⟩
 have E10:=hid e10;clear e10;iterate 7 (refine bF rfl ?_;intro K hK;go_simp;refine hK _ _ ?_;clear hK K)
 cases e11:(ak==bk);·refine fM 94 87 false 4 false rfl rfl (by kernel_rfl) ?_;intro a9 IJ IK;go_wp2_with fail;exact eT rfl IK IJ ⟨by rw[Uu.out,E0.out,E1.out,E2.out,E3.out,E4.out,E5.out,E6.out,E7.out,E8.out,E9.out,E10.out,e11];simp only[Bool.true_and,Bool.false_and],hbz.out⟩
 have E11:=hid e11;clear e11;iterate 6 (refine bF rfl ?_;intro K hK;go_simp;refine hK _ _ ?_;clear hK K)
 (refine bF rfl ?_;intro K hK;go_simp;refine hK _ _ ?_;clear hK K)
 apply wpList_nil;go_wp2_with fail;go_ret;exact⟨aZ (by rw[Uu.out,E0.out,E1.out,E2.out,E3.out,E4.out,E5.out,E6.out,E7.out,E8.out,E9.out,E10.out,E11.out];simp only[Bool.true_and]),hbz.out⟩
structure Laid (w:World):Prop where
 size:6≤w.heap.size
 max:∃m,w.cell? ⟨0,0,none⟩=some (.int .i64 m)
 pow:Lib.TabIs Tryz.prog w (gN 3) .u64 Lib.pow10Tab
 utf:Lib.Utf8Tabs 1 2 w
 bru:∀j,j < 64→w.cell? ⟨5,j,none⟩=some (.int .u8 (Lib.deBruijn64tab.getD j 0))
theorem akH:Tryz.prog.globalNamed (gN 3)=some 3:=by kernel_rfl
theorem V6 {w w':World} {name:String} {k:IntKind} {zs:List Int} {g:Nat} (h:Lib.TabIs Tryz.prog w name k zs) (hg:Tryz.prog.globalNamed name=some g) (hb:w'.heap[g]? =w.heap[g]?):Lib.TabIs Tryz.prog w' name k zs:=by unfold Lib.TabIs World.var? at*;rw[hg] at h⊢;simpa[hb] using h
theorem Laid.below {B:Nat} {w w':World} (h:Laid w) (hb:Below B w w') (hB:6≤B):Laid w':=by
 obtain⟨m,hm⟩:=h.max;refine⟨Nat.le_trans h.size hb.size,⟨m,(hb.cell (p:=⟨0,0,none⟩) (by show 0 < B;omega)).trans hm⟩,V6 h.pow akH (hb.block 3 (by omega)),⟨fun c hc=>?_,fun i hi=>⟨?_,?_⟩⟩,fun j hj=>(hb.cell (p:=⟨5,j,none⟩) (by show 5 < B;omega)).trans (h.bru j hj)⟩;·exact(hb.cell (p:=⟨1,c,none⟩) (by show 1 < B;omega)).trans (h.utf.1 c hc)
 ·exact(hb.cell (p:=⟨2,2*i,none⟩) (by show 2 < B;omega)).trans (h.utf.2 i hi).1
 ·exact(hb.cell (p:=⟨2,2*i+1,none⟩) (by show 2 < B;omega)).trans (h.utf.2 i hi).2
theorem Laid.step {w w':World} (h:Laid w) (hb:Below w.heap.size w w'):Laid w':=h.below hb h.size
theorem Bk (B:Nat) (w:World) (n:Nat):Below B w (w.drewN n):=⟨rfl,rfl,rfl,Nat.le_refl _,fun _ _=>rfl⟩
theorem jU (s p:List UInt8) (w:World):Calls Tryz.prog 65 #[.string (aA s),.string (aA p)] w fun e w'=>e= .returned (.bool (p.isPrefixOf s))∧w=w':=by refine(Tryz.strings_HasPrefix (aA s) (aA p) w).mono ?_;rintro e w' ⟨rfl,rfl⟩;exact⟨by rw[aC,aC];rfl,rfl⟩
theorem Cr (s:List UInt8) (c:UInt8) (w:World):Calls Tryz.prog 81 #[.string (aA s),.int .u8 (c.toNat:Int)] w fun e w'=>e= .returned (.int .i64 (Lib.indexByte s c))∧w=w':=by refine(Tryz.strings_IndexByte (aA s) (c.toNat:Int) w).mono ?_;rintro e w' ⟨rfl,rfl⟩;exact⟨by rw[aC];simp,rfl⟩
def Bl (q:UInt8) (s:List UInt8):Int:=match lC q s with
 |some k=>(k:Int)
 |none=> -1
theorem FN {q:UInt8}:∀{s:List UInt8},lC q s=none→∀x∈s,x≠q:=by
 intro s;induction s with
 |nil=>intro _ x hx;cases hx
 |cons c t ih=>
  intro h x hx;rw[lC] at h;split at h;·cases h
  ·rename_i hn;split at h;·cases h
   ·rename_i hc;rcases List.mem_cons.1 hx with rfl|hx;·exact hc
    ·exact ih hn x hx
theorem Bm {q:UInt8}:∀{s:List UInt8} {k:Nat},lC q s=some k→s[k]? =some q∧∀j,k < j→s[j]? ≠some q:=by
 intro s;induction s with
 |nil=>intro k h;cases h
 |cons c t ih=>
  intro k h;rw[lC] at h;split at h;·rename_i m hm;cases h;obtain⟨h1,h2⟩:=ih hm;refine⟨by rw[List.getElem?_cons_succ];exact h1,fun j hj=>?_⟩;obtain⟨i,rfl⟩:∃i,j=i+1:=⟨j - 1,by omega⟩;rw[List.getElem?_cons_succ];exact h2 i (by omega)
  ·rename_i hn;split at h;·rename_i hc;cases h;refine⟨by simp[hc],fun j hj=>?_⟩;obtain⟨i,rfl⟩:∃i,j=i+1:=⟨j - 1,by omega⟩;rw[List.getElem?_cons_succ];intro hx;exact FN hn q (List.mem_of_getElem? hx) rfl
   ·cases h
theorem BU {q:UInt8} {s:List UInt8} {k:Nat} (h:lC q s=some k):k < s.length:=by have:=(Bm h).1;exact(List.getElem?_eq_some_iff.1 this).1
theorem ME (s:List UInt8) (j:Nat) (h:j < s.length):(aA s).data[j]! =s[j]:=by
 have:j < (aA s).data.size:=by show j < (aA s).size;rw[aD];exact h
 rw[getElem!_pos (aA s).data j this];rfl
theorem Y0 (q:UInt8) (s:List UInt8):Lib.lastIndexByte (aA s) (q.toNat:Int)=Bl q s:=by
 have hz:=aD s;unfold Bl;rcases Lib.lastIndexByte_spec (aA s) (q.toNat:Int) with⟨h1,h2⟩|⟨i,h1,h2,h3,h4⟩
 ·cases hl:lC q s with
  |none=>exact h1
  |some k=>exfalso;have hk:=BU hl;refine h2 k (by omega) ?_;rw[ME s k hk];have:=(Bm hl).1;rw[List.getElem?_eq_getElem hk] at this;injection this with this;rw[this]
 ·have hi:i < s.length:=by omega
  rw[ME s i hi] at h3;have h3':s[i]=q:=by rw[←UInt8.toNat_inj];omega
  cases hl:lC q s with
  |none=>exact absurd h3' (FN hl _ (List.getElem_mem hi))
  |some k=>
   have hk:=BU hl;obtain⟨g1,g2⟩:=Bm hl;rw[h2];show(i:Int)=(k:Int);rcases Nat.lt_trichotomy i k with h|h|h;·exfalso;refine h4 k h (by omega) ?_;rw[ME s k hk];rw[List.getElem?_eq_getElem hk] at g1;injection g1 with g1;rw[g1]
   ·rw[h]
   ·exfalso;refine g2 i h ?_;rw[List.getElem?_eq_getElem hi,h3']
theorem qR (s:List UInt8) (q:UInt8) (hs:s.length≤4000000000) (w:World):Calls Tryz.prog 182 #[.string (aA s),.int .u8 (q.toNat:Int)] w fun e w'=>e= .returned (.int .i64 (Bl q s))∧w=w':=by refine(Tryz.strings_LastIndexByte (aA s) (q.toNat:Int) (by rw[aD];omega) w).mono ?_;rintro e w' ⟨rfl,rfl⟩;exact⟨by rw[Y0],rfl⟩
end Go.Proofs.YtmgmclkplepapaaGreatDoor
