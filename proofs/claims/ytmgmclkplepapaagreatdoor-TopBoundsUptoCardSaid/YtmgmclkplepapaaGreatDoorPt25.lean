/- Part of the proof of TopBoundsUptoCardSaid. Conditions: none beyond the statement. -/
import Derived.Shelf.Spec.DecodeRune
import Derived.Shelf.Spec.TrailingZeros
import Derived.Test.YtmgmclkplepapaaGreatDoorPt23
set_option linter.all false
set_option maxRecDepth 100000
set_option maxHeartbeats 64000000
namespace Go.Proofs.YtmgmclkplepapaaGreatDoor
open Go.RowKit
def SD:Go.Shelf.Ren:=⟨fun|32=>83|49=>125|n=>n,fun|0=>0|3=>3|4=>4|5=>5|21=>21|25=>182|30=>25|33=>123|66=>183|68=>185|69=>186|n=>n,fun|2=>1|3=>2|n=>n⟩
theorem ahK:Go.Proofs.Lays7.n32 Tryz.prog SD:={
 mixed:=by kernel_rfl
 f32:=(dK Tryz.func83 (by kernel_rfl))
 f49:=(dK Tryz.func125 (by kernel_rfl))
 t0:=Tryz.underlying0
 a0:=Tryz.isAgg0
 z0:=Tryz.sizeOf0
 v0:=Tryz.zeroValue0
 i0:=by kernel_rfl
 t3:=Tryz.underlying3
 a3:=Tryz.isAgg3
 z3:=Tryz.sizeOf3
 v3:=Tryz.zeroValue3
 i3:=by kernel_rfl
 t4:=Tryz.underlying4
 a4:=Tryz.isAgg4
 z4:=Tryz.sizeOf4
 v4:=Tryz.zeroValue4
 i4:=by kernel_rfl
 t5:=Tryz.underlying5
 a5:=Tryz.isAgg5
 z5:=Tryz.sizeOf5
 v5:=Tryz.zeroValue5
 i5:=by kernel_rfl
 t21:=Tryz.underlying21
 a21:=Tryz.isAgg21
 z21:=Tryz.sizeOf21
 v21:=Tryz.zeroValue21
 i21:=by kernel_rfl
 t25:=Tryz.underlying182
 a25:=Tryz.isAgg182
 z25:=Tryz.sizeOf182
 v25:=Tryz.zeroValue182
 i25:=by kernel_rfl
 t30:=Tryz.underlying25
 a30:=Tryz.isAgg25
 z30:=Tryz.sizeOf25
 v30:=Tryz.zeroValue25
 i30:=by kernel_rfl
 t33:=Tryz.underlying123
 a33:=Tryz.isAgg123
 z33:=Tryz.sizeOf123
 v33:=Tryz.zeroValue123
 i33:=by kernel_rfl
 t66:=Tryz.underlying183
 a66:=Tryz.isAgg183
 z66:=Tryz.sizeOf183
 t68:=Tryz.underlying185
 a68:=Tryz.isAgg185
 z68:=Tryz.sizeOf185
 v68:=Tryz.zeroValue185
 i68:=by kernel_rfl
 t69:=Tryz.underlying186
 a69:=Tryz.isAgg186
 z69:=Tryz.sizeOf186
 v69:=Tryz.zeroValue186
 i69:=by kernel_rfl
 g2:=by kernel_rfl
 g3:=by kernel_rfl}
def SE:Go.Shelf.Ren:=⟨fun|27=>172|28=>197|29=>198|n=>n,fun|0=>0|3=>3|4=>4|5=>5|22=>130|25=>182|27=>28|53=>212|54=>213|n=>n,fun|0=>4|1=>5|n=>n⟩
theorem ahL:Go.Proofs.Lays7.n27 Tryz.prog SE:={
 mixed:=by kernel_rfl
 f27:=(dK Tryz.func172 (by kernel_rfl))
 f28:=(dK Tryz.func197 (by kernel_rfl))
 f29:=(dK Tryz.func198 (by kernel_rfl))
 t0:=Tryz.underlying0
 a0:=Tryz.isAgg0
 z0:=Tryz.sizeOf0
 v0:=Tryz.zeroValue0
 i0:=by kernel_rfl
 t3:=Tryz.underlying3
 a3:=Tryz.isAgg3
 z3:=Tryz.sizeOf3
 v3:=Tryz.zeroValue3
 i3:=by kernel_rfl
 t4:=Tryz.underlying4
 a4:=Tryz.isAgg4
 z4:=Tryz.sizeOf4
 v4:=Tryz.zeroValue4
 i4:=by kernel_rfl
 t5:=Tryz.underlying5
 a5:=Tryz.isAgg5
 z5:=Tryz.sizeOf5
 v5:=Tryz.zeroValue5
 i5:=by kernel_rfl
 t22:=Tryz.underlying130
 a22:=Tryz.isAgg130
 z22:=Tryz.sizeOf130
 v22:=Tryz.zeroValue130
 i22:=by kernel_rfl
 t25:=Tryz.underlying182
 a25:=Tryz.isAgg182
 z25:=Tryz.sizeOf182
 v25:=Tryz.zeroValue182
 i25:=by kernel_rfl
 t27:=Tryz.underlying28
 a27:=Tryz.isAgg28
 z27:=Tryz.sizeOf28
 v27:=Tryz.zeroValue28
 i27:=by kernel_rfl
 t53:=Tryz.underlying212
 a53:=Tryz.isAgg212
 z53:=Tryz.sizeOf212
 v53:=Tryz.zeroValue212
 i53:=by kernel_rfl
 t54:=Tryz.underlying213
 a54:=Tryz.isAgg213
 z54:=Tryz.sizeOf213
 g0:=by kernel_rfl
 g1:=by kernel_rfl}
def eR (w:World) (v:Value) (l:List UInt8):Prop:=
 (v= .slice none 0 0∧l=[])∨
 ∃g off c,v= .slice (some ⟨g,off,none⟩) l.length c∧l.length≤c∧c≤maxLen∧∀j (h:j < l.length),w.cell? ⟨g,off+j,none⟩=some (.int .u8 (l[j].toNat:Int))
theorem eR.len {w:World} {v:Value} {l:List UInt8} (h:eR w v l):∃a c,v= .slice a l.length c∧l.length≤c∧c≤maxLen:=by
 rcases h with⟨rfl,rfl⟩|⟨g,off,c,rfl,hc,hm,_⟩;·exact⟨none,0,rfl,Nat.le_refl _,Nat.zero_le _⟩
 ·exact⟨_,c,rfl,hc,hm⟩
theorem eR.below {w w':World} {v:Value} {l:List UInt8} (h:eR w v l) (hb:Below w.heap.size w w'):eR w' v l:=by
 rcases h with h|⟨g,off,c,hv,hc,hm,aW⟩;·exact .inl h
 ·refine .inr ⟨g,off,c,hv,hc,hm,fun j hj=>?_⟩;have h1:=aW j hj;have hg:g < w.heap.size:=by
   rcases Nat.lt_or_ge g w.heap.size with bC|An;·exact bC
   ·simp[World.cell?,Array.getElem?_eq_none An] at h1
  exact(hb.cell (p:=⟨g,off+j,none⟩) hg).trans h1
theorem eR.form {w:World} {v:Value} {l:List UInt8} (h:eR w v l) (hn:l≠[]):∃g off c,v= .slice (some ⟨g,off,none⟩) l.length c∧l.length≤c∧c≤maxLen∧∀j (h:j < l.length),w.cell? ⟨g,off+j,none⟩=some (.int .u8 (l[j].toNat:Int)):=by
 rcases h with⟨_,h⟩|h;·exact absurd h hn
 ·exact h
theorem eR.cut {w:World} {g off c k:Nat} {l:List UInt8} (hc:l.length≤c) (hm:c≤maxLen) (h:∀j (h:j < l.length),w.cell? ⟨g,off+j,none⟩=some (.int .u8 (l[j].toNat:Int))) (hk:k≤l.length):
 eR w (.slice (some ⟨g,off+k,none⟩) (l.drop k).length (c - k)) (l.drop k):=by
 refine .inr ⟨g,off+k,c - k,rfl,by rw[List.length_drop];omega,by omega,fun j hj=>?_⟩;rw[List.length_drop] at hj;have:=h (k+j) (by omega);rw[List.getElem_drop,Nat.add_assoc];exact this
theorem fC.Uz {w:World} {base:Nat} {v:Value} {l:List UInt8} (h:fC w base v l):eR w v l:=by
 have h':=h;obtain⟨h1,h2⟩:=h;rcases h2 with⟨rfl,h3⟩|⟨g,cap,cur,rfl,hg,hh,hc,hm,hs,ht⟩;·exact .inl ⟨rfl,List.length_eq_zero_iff.1 h3⟩
 ·refine .inr ⟨g,0,cap,rfl,hc,hm,fun j hj=>?_⟩;have:=World.ownsRow.cells h' (g:=g) rfl j (.int .u8 (l[j].toNat:Int)) (by rw[List.getElem?_map,List.getElem?_eq_getElem hj];rfl);rw[CG] at this;rw[Nat.zero_add];exact this
def MK (c:UInt8):Value:= .tuple #[.int .u8 ((eL c.toNat).1:Int),.int .u8 ((eL c.toNat).2.1:Int),.int .i64 ((eL c.toNat).2.2:Int)]
theorem Pq (c:UInt8) (w:World):Calls Tryz.prog 126 #[.int .u8 (c.toNat:Int)] w fun e w'=>e= .returned (MK c)∧w=w':=by
 have bC:c.toNat < 256:=c.toNat_lt;have hb:Hid (MK c= .tuple #[.int .u8 ((eL c.toNat).1:Int),.int .u8 ((eL c.toNat).2.1:Int),.int .i64 ((eL c.toNat).2.2:Int)]):=hid rfl;have hn:Hid (eL c.toNat=if 0xc2≤c.toNat∧c.toNat≤0xdf then(0x80,0xbf,2) else if c.toNat=0xe0 then(0xa0,0xbf,3) else if c.toNat=0xed then(0x80,0x9f,3)
 else if 0xe1≤c.toNat∧c.toNat≤0xef then(0x80,0xbf,3) else if c.toNat=0xf0 then(0x90,0xbf,4) else if 0xf1≤c.toNat∧c.toNat≤0xf3 then(0x80,0xbf,4)
 else if c.toNat=0xf4 then(0x80,0x8f,4) else(0,0,1)):=hid rfl
 go_enter Tryz.func126,Tryz.ntmps126;go_wp2;all_goals go_ret3
 all_goals refine⟨?_,rfl⟩
 all_goals(go_light;rw[hb.out,hn.out];(repeat' split)<;>first|rfl|(exfalso;(try simp only[beq_iff_eq,beq_eq_false_iff_ne] at*);omega))
theorem Wj (low high:Nat) (l:List UInt8):yY 0 low high l=0:=rfl
theorem Zg (m low high:Nat):yY m low high []=0:=by cases m<;>rfl
theorem Wk (m low high:Nat) (c:UInt8) (t:List UInt8):yY (m+1) low high (c::t)=if low≤c.toNat∧c.toNat≤high then 1+yY m 0x80 0xbf t else 0:=rfl
theorem SF (c:Nat):(eL c).1≤255∧(eL c).2.1≤255∧1≤(eL c).2.2∧(eL c).2.2≤4:=by
 unfold eL
 (repeat' split)<;>simp
theorem IT (v:Value) (l:List UInt8) (w:World) (hv:eR w v l) (eG:l≠[]):Calls Tryz.prog 84 #[v] w fun e w'=>e= .returned (.int .i64 (lA l:Int))∧w=w':=by
 obtain⟨g,off,c,rfl,hc,hm,aW⟩:=hv.form eG;unfold maxLen at hm;have h0:0 < l.length:=List.length_pos_iff.mpr eG;have hc0:=aW 0 h0;rw[Nat.add_zero] at hc0;have hb:Hid (lA l=1+yY ((eL (l[0]).toNat).2.2 - 1) (eL (l[0]).toNat).1 (eL (l[0]).toNat).2.1 (l.drop 1)):=hid (by
  cases l with
  |nil=>exact absurd rfl eG
  |cons c t=>rfl)
 have HB:=hid (fun w=>Pq l[0] w);obtain⟨b1,b2,b3,b4⟩:=SF (l[0]).toNat;have HC:=hid aW;clear aW eG;generalize hx:l[0]=x at*;unfold MK at HB;obtain⟨z,hz⟩:∃z,z=eL x.toNat:=⟨_,rfl⟩;rw[←hz] at HB hb b1 b2 b3 b4;obtain⟨lo,hi,sz⟩:=z;simp only at HB hb b1 b2 b3 b4;clear hz hx;go_enter Tryz.func84,Tryz.ntmps84;go_wp2_with fail;refine(HB.out _).mono ?_;rintro e w' ⟨rfl,rfl⟩;go_wp2_with fail;go_loopw [3,4,6] (fun a b n' wr=>∃n low high:Nat,a= .int .u8 (low:Int)∧b= .int .u8 (high:Int)∧n'= .int .i64 (n:Int)∧low≤255∧high≤255∧1≤n∧n≤sz∧n≤l.length∧Hid (lA l=n+yY (sz - n) low high (l.drop n))∧w=wr) (fun _ _ n' _=>sz - (intOf n').toNat);case atStart=>exact⟨1,lo,hi,rfl,rfl,rfl,b1,b2,by omega,by omega,by omega,hb,rfl⟩
 case round=>
  obtain⟨n,low,high,rfl,rfl,rfl,yW,apF,hn1,hn2,hn3,hf,rfl⟩:=hrel;by_cases h1:n < sz
  ·by_cases h2:n < l.length
   ·have hcn:=HC.out n h2;have nV:=hf.out;obtain⟨m,hm'⟩:∃m,sz - n=m+1:=⟨sz - n - 1,by omega⟩;rw[List.drop_eq_getElem_cons h2,hm',Wk] at nV;have iE:(l[n]).toNat < 256:=(l[n]).toNat_lt;generalize l[n]=y at*;by_cases h3:low≤y.toNat
    ·by_cases h4:y.toNat≤high
     ·rw[if_pos ⟨h3,h4⟩] at nV;have HF:Hid (lA l=(n+1)+yY (sz - (n+1)) 128 191 (l.drop (n+1))):=hid (by rw[nV,show sz - (n+1)=m by omega];omega);clear hf nV hm';go_wp2_with fail;go_roundw;case rel=>exact⟨n+1,128,191,rfl,rfl,by go_num,by omega,by omega,by omega,by omega,by omega,HF,trivial⟩
      case measure=>simp[intOf];omega
     ·rw[if_neg (fun h=>h4 h.2)] at nV;have HF:Hid (lA l=n):=hid nV;clear hf nV hm';go_wp2_with fail;go_ret;exact⟨nT (by rw[HF.out]),rfl⟩
    ·rw[if_neg (fun h=>h3 h.1)] at nV;have HF:Hid (lA l=n):=hid nV;clear hf nV hm';go_wp2_with fail;go_ret;exact⟨nT (by rw[HF.out]),rfl⟩
   ·have HF:Hid (lA l=n):=hid (by rw[hf.out,List.drop_eq_nil_of_le (by omega),Zg];rfl);clear hf;go_wp2_with fail;go_ret;exact⟨nT (by rw[HF.out]),rfl⟩
  ·have HF:Hid (lA l=n):=hid (by rw[hf.out,show sz - n=0 by omega,Wj];rfl);clear hf;go_wp2_with fail;go_ret;exact⟨nT (by rw[HF.out]),rfl⟩
theorem Bs (l:List UInt8) (j:Nat):(aA l).get! j=l.getD j 0:=by show(aA l).data[j]! =_;rw[getElem!_def,List.getD_eq_getElem?_getD];unfold aA;simp;cases l[j]? <;>rfl
theorem BY (l:List UInt8) (i:Nat):Utf8.decode (aA l) i=cH (l.drop i):=by rw[Lib.decode_at];unfold cH;rw[Bs,Bs,Bs,Bs,aD];simp only[List.length_drop,List.getD_eq_getElem?_getD,List.getElem?_drop,Nat.add_zero]
theorem EW (v:Value) (l:List UInt8) (w:World) (hW:Laid w) (hv:eR w v l) (eG:l≠[]):
 Calls Tryz.prog 83 #[v] w fun e w'=>e= .returned (.tuple #[.int .i32 ((cH l).1:Int),.int .i64 ((cH l).2:Int)])∧Below w.heap.size w w':=by
 obtain⟨g,off,c,rfl,hc,hm,aW⟩:=hv.form eG;have h0:0 < l.length:=List.length_pos_iff.mpr eG;have:=Any7.utf8_DecodeRune ahK (aA l) g off c w hW.utf (fun j hj=>by
  rw[aD] at hj;rw[aW j hj,Bs];simp[List.getD_eq_getElem?_getD,hj])
 rw[aD] at this;refine this.mono ?_;rintro e w' ⟨rfl,hb⟩;refine⟨?_,hb⟩;have hd:Lib.decodeGo (aA l)=cH l:=by unfold Lib.decodeGo;rw[if_neg (by rw[aD];omega),BY];rfl
 rw[hd]
theorem Ko (B b:Nat) (bs:List Value) (g off c:Nat) (l:List UInt8) (w:World) (h:Lib.IsBuilder 65 5 B b bs w) (hlen:bs.length+l.length≤4000000000) (Ic:B≤w.heap.size) (hl:l≠[])
 (aW:∀w',Below B w w'→∀j (h:j < l.length),w'.cell? ⟨g,off+j,none⟩=some (iN l[j])):
 Calls Tryz.prog 85 #[.pointer (some ⟨b,0,none⟩),.slice (some ⟨g,off,none⟩) l.length c] w fun e w'=>e= .returned (.tuple #[.int .i64 (l.length:Int),.nilIface])∧(Lib.BuilderAt 65 5 B b (.pointer (some ⟨b,0,none⟩)) (bs++l.map iN) w'∧Below B w w'):=by
 obtain⟨i0,hi,vN,rW,qK⟩:=info_parts infoByte;go_enter Tryz.func85,Tryz.ntmps85;go_wp2_with (go_at_call 49;refine(qM B b bs _ h).mono ?_);rintro e w1 ⟨rfl,h1,eN⟩;obtain⟨hB,v,Ds,bE,eG⟩:=h1;have c0:w1.cell? ⟨b,0,none⟩=some (.pointer (some ⟨b,0,none⟩)):=by rw[Lib.cell_of_heap Ds];rfl
 have c1:w1.cell? ⟨b,1,none⟩=some v:=by rw[Lib.cell_of_heap Ds];rfl
 have akN:=aW w1 eN;have anN:=hid akN;clear akN aW;go_wp2_with (at_builtin;refine wpList_append_own _ rfl _ _ 25 rfl B 5 i0 (.int .u8 0) 1 1 Tryz.underlying25 hi vN rW qK rfl (by decide) _ _ _ rfl bE ⟨g,off,none⟩ l.length c (l.map iN) rfl (by simp) ?c1 ?c2 ?c3 ?c4 ?c5 ?_);case c1=>
  intro j u hj;have KV:j < l.length:=by have:=(List.getElem?_eq_some_iff.1 hj).1;simpa using this
  rw[List.getElem?_map,List.getElem?_eq_getElem KV] at hj;simp at hj;rw[Addr.add_lit,anN.out j KV,hj]
 case c2=>intro u hu;obtain⟨b,_,rfl⟩:=List.mem_map.1 hu;rfl
 case c3=>unfold maxLen;omega
 case c4=>omega
 case c5=>have:=eN.size;omega
 intro v' w2 A6 uV _;have bC:b < w1.heap.size:=by
  rcases Nat.lt_or_ge b w1.heap.size with h'|h';·exact h'
  ·simp[Array.getElem?_eq_none h'] at Ds
 have dE:w2.heap[b]? =some (.cells #[.pointer (some ⟨b,0,none⟩),v] 65 (0,0)):=by rw[uV.block b bC (fun e=>eG e.symm)];exact Ds
 have d0:w2.cell? ⟨b,0,none⟩=some (.pointer (some ⟨b,0,none⟩)):=by rw[Lib.cell_of_heap dE];rfl
 have d1:w2.cell? ⟨b,1,none⟩=some v:=by rw[Lib.cell_of_heap dE];rfl
 have f1:w2.frozen? ⟨b,1,none⟩=false:=Lib.frozen_of_heap dE 1;obtain⟨ao,n',cap,rfl⟩:∃ao n' cap,v'= .slice ao n' cap:=by
  rcases A6.2 with⟨hv,_⟩|⟨g,cap,cur,hv,_⟩;·exact⟨_,_,_,hv⟩
  ·exact⟨_,_,_,hv⟩
 go_wp2;go_ret2;refine⟨rfl,?_,?_⟩;·exact Lib.BuilderAt.put (T:=65) (e:=5) hB dE (bs':=bs++l.map iN) (by simpa using A6) (by decide)
 ·exact(eN.grown uV (by have:=eN.size;omega) (fun k hk=>(bE.lt k hk).1)).setCell (p:=⟨b,1,none⟩) hB _
theorem ML (w:World) (B b:Nat) (m l:List UInt8) (g off c:Nat) (h:rX w B b m) (hlen:m.length+l.length≤4000000000) (Ic:B≤w.heap.size) (hl:l≠[]) (hg:g < B)
 (aW:∀j (h:j < l.length),w.cell? ⟨g,off+j,none⟩=some (.int .u8 (l[j].toNat:Int))):
 Calls Tryz.prog 85 #[.pointer (some ⟨b,0,none⟩),.slice (some ⟨g,off,none⟩) l.length c] w fun e w'=>e= .returned (.tuple #[.int .i64 (l.length:Int),.nilIface])∧rX w' B b (m++l)∧Below B w w':=by
 refine(Ko B b (Lib.byteCells m) g off c l w h (by rw[rY];exact hlen) Ic hl (fun w' hb j hj=>?_)).mono ?_;·exact(hb.cell (p:=⟨g,off+j,none⟩) hg).trans (aW j hj)
 ·rintro e w' ⟨rfl,h1,h2⟩;refine⟨rfl,.inr ?_,h2⟩;have:Lib.byteCells (m++l)=Lib.byteCells m++l.map iN:=by simp[pD,iN]
  rw[this];exact h1
theorem Kp {w w':World} {base:Nat} {e:TypeId} {size:Nat} {v:Value} {n:Nat} {xs:List Value} (h:w.ownsRow base e size v n xs) (hb:Below w.heap.size w w'):w'.ownsRow base e size v n xs:=by
 obtain⟨h1,h2⟩:=h;refine⟨h1,?_⟩;rcases h2 with h2|⟨g,cap,cur,hv,hg,hh,r⟩;·exact .inl h2
 ·exact .inr ⟨g,cap,cur,hv,hg,by rw[hb.block g (Array.getElem?_eq_some_iff.1 hh).1];exact hh,r⟩
theorem rO {w w':World} {B b:Nat} {l:List UInt8} (h:rX w B b l) (hb:Below w.heap.size w w'):rX w' B b l:=by
 have key:∀p,Lib.BuilderAt 65 5 B b p (Lib.byteCells l) w→Lib.BuilderAt 65 5 B b p (Lib.byteCells l) w':=by rintro p ⟨h1,v,h2,h3,h4⟩;exact⟨h1,v,by rw[hb.block b (Array.getElem?_eq_some_iff.1 h2).1];exact h2,Kp h3 hb,h4⟩
 rcases h with h|h;·exact .inl (key _ h)
 ·exact .inr (key _ h)
theorem CQ (c:UInt8):∀l:List UInt8,(Lib.indexByte l c= -1∧∀x∈l,x≠c)∨∃a r,l=a++c::r∧(∀x∈a,x≠c)∧Lib.indexByte l c=(a.length:Int)
 |[]=> .inl ⟨rfl,by simp⟩
 |b::l=>by
  by_cases hb:b=c;·subst hb;exact .inr ⟨[],l,rfl,by simp,by simp[Lib.indexByte]⟩
  ·have hbf:(b==c)=false:=by simpa using hb
   rcases CQ c l with⟨h1,h2⟩|⟨a,r,h1,h2,h3⟩
   ·refine .inl ⟨by simp[Lib.indexByte,hbf,h1],fun x hx=>?_⟩;rcases List.mem_cons.1 hx with rfl|hx;·exact hb
    ·exact h2 x hx
   ·refine .inr ⟨b::a,r,by rw[h1];rfl,fun x hx=>?_,?_⟩
    ·rcases List.mem_cons.1 hx with rfl|hx;·exact hb
     ·exact h2 x hx
    ·have h4:¬(Lib.indexByte l c= -1):=by omega
     rw[Lib.indexByte,hbf,h3];have h5:((a.length:Int)== -1)=false:=by rw[beq_eq_false_iff_ne];omega
     rw[h5];simp
theorem Bt (s:ByteArray) (c:UInt8) (n:Int) (hn:n=(c.toNat:Int)) (j:Int) (hj:Lib.indexByte s.data.toList c=j) (w:World):
 Calls Tryz.prog 81 #[.string s,.int .u8 n] w fun e w'=>e= .returned (.int .i64 j)∧w=w':=by
 subst hn hj;refine(Tryz.strings_IndexByte s (c.toNat:Int) w).mono ?_;rintro e w' ⟨rfl,rfl⟩;refine⟨?_,rfl⟩;simp
theorem IU (s:ByteArray) (r t:List UInt8) (n:Nat) (h:zK r=some (t,n)) (hs:s.data.toList=38::r) (hz:s.size≤1000000000) (w:World):
 Calls Tryz.prog 82 #[.string s] w fun e w'=>e= .returned (.tuple #[.string (aA t),.int .i64 ((n+1:Nat):Int)])∧Below w.heap.size w w':=by
 have:=Ap s r w hs hz;rw[h] at this;exact this
theorem MM (s:ByteArray) (r:List UInt8) (h:zK r=none) (hs:s.data.toList=38::r) (hz:s.size≤1000000000) (w:World):
 Calls Tryz.prog 82 #[.string s] w fun e w'=>e= .returned (.tuple #[.string ⟨#[38]⟩,.int .i64 1])∧Below w.heap.size w w':=by
 have:=Ap s r w hs hz;rw[h] at this;exact this
theorem Kq (s:ByteArray) (w:World) (hs:s.size≤1000000000):
 Calls Tryz.prog 47 #[.string s] w fun e w'=>e= .returned (.string (aA (pM s.data.toList)))∧Below w.heap.size w w':=by
 have K5:=rX.fresh w;have sV:Below w.heap.size w (w.alloc (.cells #[.pointer none,.slice none 0 0] 65)):=(Below.refl _ _).alloc (Nat.le_refl _) _;have ID:=hid K5;have UA:=hid sV;have tE:s.data.toList.length=s.size:=by simp
 have tG:s=aA s.data.toList:=(BQ s).symm;obtain⟨S,hS⟩:∃S,S=s.data.toList:=⟨_,rfl⟩;rw[←hS] at tE tG⊢;rw[←tE] at hs;subst tG;clear K5 sV tE hS;go_enter Tryz.func47,Tryz.ntmps47;go_wp2_with fail;go_loopw [0] (fun v wr=>∃l rest:List UInt8,v= .string (aA rest)∧Hid (pM S=l++pM rest)∧l.length+rest.length≤S.length∧rX wr w.heap.size w.heap.size l∧Below w.heap.size w wr) (fun v _=>match v with| .string x=>x.size|_=>0);case atStart=>exact⟨[],S,rfl,hid (by simp),by simp,ID.out,UA.out⟩
 case round=>
  obtain⟨l,rest,rfl,Su,hlr,kZ,dB⟩:=hrel;have jO:=hid kZ;have dR:=hid dB;clear kZ dB;have zV:=cC rest;have hrz:(aA rest).data.toList=rest:=aC _;have Bc:(aA rest).size=rest.length:=aD _;by_cases lY:rest=[]
  ·have he:(aA rest).toList.isEmpty=true:=by rw[zV,lY];rfl
   have HF:Hid (pM S=l):=hid (by rw[Su.out,lY,Dt,List.append_nil]);clear zV lY hrz Bc;go_wp2_with fail;refine(eU _ _ _ l jO.out dR.out.size).mono ?_;rintro e w4 ⟨rfl,cG⟩;have fG:=hid (dR.out.trans cG);clear cG;go_wp2_with fail;go_ret;exact⟨by rw[HF.out];rfl,fG.out⟩
  ·have he:(aA rest).toList.isEmpty=false:=by rw[zV];cases rest with|nil=>exact absurd rfl lY|cons a b=>rfl
   have hr0:0 < rest.length:=by rcases Nat.eq_zero_or_pos rest.length with h|h;exact absurd (List.length_eq_zero_iff.1 h) lY;exact h
   clear zV;rcases CQ 38 rest with⟨hi,wT⟩|⟨a,r,hr,ha,hi⟩
   ·have hd:pM rest=rest:=by have:=N7 rest [] wT;rwa[List.append_nil,Dt,List.append_nil] at this
    have HF:Hid (pM S=l++rest):=hid (by rw[Su.out,hd]);have HI:=hid (fun w=>Bt (aA rest) 38 38 rfl (-1) (by rw[hrz];exact hi) w);have HRZ:=hid hrz;have HW:=hid (fun w1 (h:rX w1 w.heap.size w.heap.size l) (hb:w.heap.size≤w1.heap.size)=>cO w1 w.heap.size w.heap.size l (aA rest) h (by rw[Bc];omega) hb);rw[HRZ.out] at HW;clear hrz Bc hi hd wT lY;go_wp2_with fail;refine(HI.out _).mono ?_;rintro e w' ⟨rfl,rfl⟩;go_wp2_with fail;refine(HW.out _ jO.out dR.out.size).mono ?_;rintro e w4 ⟨rfl,IV,cG⟩;have CR:=hid IV;have fG:=hid (dR.out.trans cG);clear IV cG;go_wp2_with fail;refine(eU _ _ _ (l++rest) CR.out fG.out.size).mono ?_;rintro e w5 ⟨rfl,aM⟩;have iI:=hid (fG.out.trans aM);clear aM;go_wp2_with fail;go_ret;exact⟨by rw[HF.out];rfl,iI.out⟩
   ·have hal:a.length+(r.length+1)=rest.length:=by rw[hr];simp
    have hd:pM rest=a++pM (38::r):=by rw[hr];exact N7 a _ ha
    have HI:=hid (fun w=>Bt (aA rest) 38 38 rfl (a.length:Int) (by rw[hrz];exact hi) w);have uW:(aA rest).extract 0 a.length=aA a:=by rw[yD,hrz,hr];simp
    have B7:(aA rest).extract a.length (aA rest).size=aA (38::r):=by rw[yD,hrz,Bc,hr];simp
    have hx3:∀n,n≤r.length→(aA rest).extract (a.length+(n+1)) (aA rest).size=aA (r.drop n):=fun n hn=>by rw[yD,hrz,Bc,hr];rw[show a.length+(n+1)=a.length+1+n by omega,←List.drop_drop,←List.drop_drop,List.drop_left];simp;rw[List.take_of_length_le (by simp;omega)]
    have HX1:=hid uW;have HX2:=hid B7;have HX3:=hid hx3;have HWA:=hid (fun w1 (h:rX w1 w.heap.size w.heap.size l) (hb:w.heap.size≤w1.heap.size)=>cO w1 w.heap.size w.heap.size l (aA a) h (by rw[aD];omega) hb);rw[aC] at HWA;have apX:a.length≤(aA rest).size:=by rw[Bc];omega
    have Kf:=hid Bc;have HD:=hid hd;have akO:(aA (38::r)).size≤1000000000:=by rw[aD];simp;omega
    clear hx3 hrz hi hd lY ha hr Bc;cases hrf:zK r with
    |none=>
     have HR:=hid (fun w=>MM (aA (38::r)) r hrf (aC _) akO w);have HF:Hid (pM S=(l++a++[38])++pM r):=hid (by rw[Su.out,HD.out,K0 hrf];simp);have HWT:=hid (fun w1 (h:rX w1 w.heap.size w.heap.size (l++a)) (hb:w.heap.size≤w1.heap.size)=>cO w1 w.heap.size w.heap.size (l++a) (aA [38]) h (by rw[aD];simp;omega) hb);rw[aC] at HWT;obtain⟨z,hz⟩:∃z,z=a.length+1:=⟨_,rfl⟩;have hWz:IntKind.i64.wrap ((a.length:Int)+1)=(z:Int):=by rw[IntWalk.i64_in _ (by omega)];omega
     have hx4:(aA rest).extract z (aA rest).size=aA r:=by have:=HX3.out 0 (by omega);rw[hz];simpa using this
     have rW:z≤(aA rest).size:=by rw[Kf.out];omega
     have HX4:=hid hx4;have HWZ:=hid hWz;have HZ:=hid hz;clear hrf hz hx4 hWz;go_wp2_with fail;refine(HI.out _).mono ?_;rintro e w' ⟨rfl,rfl⟩;go_wp2_with fail;refine(HWA.out _ jO.out dR.out.size).mono ?_;rintro e w4 ⟨rfl,IV,cG⟩;have CR:=hid IV;have fG:=hid (dR.out.trans cG);clear IV cG uW;go_wp2_with fail;refine(HR.out _).mono ?_;rintro e w5 ⟨rfl,aM⟩;have IW:=hid (rO CR.out aM);have iI:=aR fG aM;clear aM;go_wp2_with fail;refine(HWT.out _ IW.out iI.out.size).mono ?_;rintro e w6 ⟨rfl,Zh,fH⟩;have ahM:=hid Zh;have Ef:=hid (iI.out.trans fH);have hWz:=HWZ.out;have hx4:=HX4.out;clear Zh fH B7;go_wp2_with fail;go_roundw;case rel=>exact⟨l++a++[38],r,rfl,HF,by simp;omega,ahM.out,Ef.out⟩
     case measure=>have:=Kf.out;simp only[aD] at*;omega
    |some p=>
     obtain⟨t,n⟩:=p;have HR:=hid (fun w=>IU (aA (38::r)) r t n hrf (aC _) akO w);have HF:Hid (pM S=(l++a++t)++pM (r.drop n)):=hid (by rw[Su.out,HD.out,KZ hrf];simp);obtain⟨ht1,IX,ht3⟩:=N8 hrf;have HWT:=hid (fun w1 (h:rX w1 w.heap.size w.heap.size (l++a)) (hb:w.heap.size≤w1.heap.size)=>cO w1 w.heap.size w.heap.size (l++a) (aA t) h (by rw[aD];simp;omega) hb);rw[aC] at HWT;obtain⟨z,hz⟩:∃z,z=a.length+(n+1):=⟨_,rfl⟩;have hWz:IntKind.i64.wrap ((a.length:Int)+((n:Int)+1))=(z:Int):=by rw[IntWalk.i64_in _ (by omega)];omega
     have hx4:(aA rest).extract z (aA rest).size=aA (r.drop n):=by have:=HX3.out n (by omega);rw[hz];exact this
     have rW:z≤(aA rest).size:=by rw[Kf.out];omega
     have HX4:=hid hx4;have HWZ:=hid hWz;have HZ:=hid hz;clear hrf hz hx4 hWz;go_wp2_with fail;refine(HI.out _).mono ?_;rintro e w' ⟨rfl,rfl⟩;go_wp2_with fail;refine(HWA.out _ jO.out dR.out.size).mono ?_;rintro e w4 ⟨rfl,IV,cG⟩;have CR:=hid IV;have fG:=hid (dR.out.trans cG);clear IV cG uW;go_wp2_with fail;refine(HR.out _).mono ?_;rintro e w5 ⟨rfl,aM⟩;have IW:=hid (rO CR.out aM);have iI:=aR fG aM;clear aM;go_wp2_with fail;refine(HWT.out _ IW.out iI.out.size).mono ?_;rintro e w6 ⟨rfl,Zh,fH⟩;have ahM:=hid Zh;have Ef:=hid (iI.out.trans fH);have hWz:=HWZ.out;have hx4:=HX4.out;clear Zh fH B7;go_wp2_with fail;go_roundw;case rel=>exact⟨l++a++t,r.drop n,rfl,HF,by simp;omega,ahM.out,Ef.out⟩
     case measure=>have:=Kf.out;have CK:(List.drop n r).length=r.length - n:=List.length_drop;simp only[aD] at*;omega
theorem mN:(⟨#[58]⟩:ByteArray)=aA [58]:=rfl
def EX (numbers:Bool) (acc:List Nat) (rest:List UInt8):Option (List Nat):=
 match Ak numbers (fZ 58 rest) with
 |none=>none
 |some r=>if 8 < acc.length+r.length then none else some (acc++r)
theorem SG {s:List UInt8} (numbers:Bool) (h:s≠[]):lG s numbers=EX numbers [] s:=by
 unfold lG EX;rw[if_neg h];cases Ak numbers (fZ 58 s) with
 |none=>rfl
 |some r=>simp
theorem MN {q:UInt8} {a r:List UInt8} (h:q∉a):bM q (a++q::r)=(a,r,true):=by obtain⟨h1,h2⟩:=BU (r:=r) h;unfold bM;rw[if_pos (by simp),h1,h2];rfl
theorem IY {q:UInt8} {s:List UInt8} (h:q∉s):bM q s=(s,[],false):=by unfold bM;rw[if_neg (by simpa using h)]
theorem Zi {q:UInt8} {s:List UInt8} (h:(bM q s).2.2=true):∃a r,s=a++q::r∧q∉a:=by
 by_cases hq:q∈s;·exact vE hq
 ·rw[IY hq] at h;cases h
theorem MO {q:UInt8} {s:List UInt8} (h:(bM q s).2.2=false):q∉s:=by intro hq;obtain⟨a,r,rfl,ha⟩:=vE hq;rw[MN ha] at h;cases h
theorem IZ (numbers:Bool) (p:List UInt8) {r:List (List UInt8)} (h:r≠[]):Ak numbers (p::r)=match kC p,Ak numbers r with
 |some x,some l=>some (x::l)
 |_,_=>none:=by
 cases r with
 |nil=>exact absurd rfl h
 |cons q r=>rfl
theorem Wl {numbers:Bool} {acc:List Nat} {s:List UInt8} (h:(bM 58 s).2.2=true) (Zj:acc.length≤8):EX numbers acc s=match kC (bM 58 s).1 with
 |none=>none
 |some x=>if 8 < acc.length+1 then none else EX numbers (acc++[x]) (bM 58 s).2.1:=by
 obtain⟨a,r,rfl,ha⟩:=Zi h;rw[MN ha];unfold EX;rw[Ha ha,IZ numbers a (BL 58 r)];cases kC a with
 |none=>rfl
 |some x=>
  cases Ak numbers (fZ 58 r) with
  |none=>simp
  |some l=>
   simp only[List.length_cons,List.length_append,List.length_nil];by_cases h8:8 < acc.length+1;·rw[if_pos (by omega),if_pos h8]
   ·rw[if_neg h8];by_cases h9:8 < acc.length+(l.length+1);·rw[if_pos h9,if_pos (by omega)]
    ·rw[if_neg h9,if_neg (by omega)];simp
theorem Wm {acc:List Nat} {s:List UInt8} (h:(bM 58 s).2.2=false) (hd:s.contains 46=true):EX true acc s=match kD s with
 |none=>none
 |some x=>if 8 < acc.length+2 then none else some (acc++[x.1,x.2]):=by
 unfold EX;rw[Bn (MO h)];have e:Ak true [s]=(kD s).map fun x=>[x.1,x.2]:=by show(if(true&&s.contains 46)=true then _ else _)=_;rw[hd];rfl
 rw[e];cases kD s<;>rfl
theorem Wn {numbers:Bool} {acc:List Nat} {s:List UInt8} (h:(bM 58 s).2.2=false) (hd:(numbers&&s.contains 46)=false):EX numbers acc s=match kC s with
 |none=>none
 |some x=>if 8 < acc.length+1 then none else some (acc++[x]):=by
 unfold EX;rw[Bn (MO h)];have e:Ak numbers [s]=(kC s).map fun x=>[x]:=by show(if(numbers&&s.contains 46)=true then _ else _)=_;rw[hd];rfl
 rw[e];cases kC s<;>rfl
theorem Pr (s:List UInt8) (q:UInt8):decide (0≤Lib.indexByte s q)=s.contains q:=by
 rcases CQ q s with⟨h1,h2⟩|⟨a,r,rfl,_,h2⟩
 ·rw[h1];have:s.contains q=false:=by rw[Bool.eq_false_iff];intro hc;exact h2 q (by simpa using hc) rfl
  rw[this];rfl
 ·rw[h2];have:(a++q::r).contains q=true:=by simp
  rw[this];simp
theorem EY {s:List UInt8} {n:Nat} (h:kC s=some n):n < 65536:=by
 unfold kC at h;split at h;·cases h
 ·cases hp:zC 0 s with
  |none=>rw[hp] at h;cases h
  |some m=>rw[hp] at h;cases h;exact Nat.mod_lt _ (by decide)
def eY (n:Nat):Value:= .int .u16 (n:Int)
def rP (w:World) (base:Nat) (v:Value) (l:List Nat):Prop:=w.ownsRow base 29 1 v l.length (l.map eY)
theorem Ps:(Tryz.prog.info? 29).map (fun i=>(i.zero,i.size,i.bytes))=some (some (.int .u16 0),1,2):=by kernel_rfl
theorem rP.nil (w:World) (base:Nat):rP w base (.slice none 0 0) []:=World.ownsRow_nil _ _ _ _
theorem rP.below {w w':World} {base:Nat} {v:Value} {l:List Nat} (h:rP w base v l) (hb:Below w.heap.size w w'):rP w' base v l:=by
 obtain⟨h1,h2⟩:=h;refine⟨h1,?_⟩;rcases h2 with h2|⟨g,cap,cur,hv,hg,hh,r⟩;·exact .inl h2
 ·exact .inr ⟨g,cap,cur,hv,hg,by rw[hb.block g (Array.getElem?_eq_some_iff.1 hh).1];exact hh,r⟩
theorem rP.mono {w:World} {base base':Nat} {v:Value} {l:List Nat} (h:rP w base v l) (hb:base'≤base):rP w base' v l:=by
 obtain⟨h1,h2⟩:=h;refine⟨h1,?_⟩;rcases h2 with h2|⟨g,cap,cur,hv,hg,r⟩;·exact .inl h2
 ·exact .inr ⟨g,cap,cur,hv,Nat.le_trans hb hg,r⟩
theorem rP.len {w:World} {base:Nat} {v:Value} {l:List Nat} (h:rP w base v l):∃a c,v= .slice a l.length c:=by
 obtain⟨h1,h2⟩:=h;rcases h2 with⟨rfl,h3⟩|⟨g,cap,cur,rfl,_⟩;·exact⟨none,0,by rw[h3]⟩
 ·exact⟨_,cap,rfl⟩
theorem rP.cells {w:World} {base:Nat} {v:Value} {l:List Nat} (h:rP w base v l):(v= .slice none 0 0∧l=[])∨∃g c,v= .slice (some ⟨g,0,none⟩) l.length c∧base≤g∧l.length≤c∧∀j (hj:j < l.length),w.cell? ⟨g,j,none⟩=some (.int .u16 (l[j]:Int)):=by
 have h':=h;obtain⟨h1,h2⟩:=h;rcases h2 with⟨rfl,h3⟩|⟨g,cap,cur,rfl,hg,hh,hc,hm,hs,ht⟩;·exact .inl ⟨rfl,List.length_eq_zero_iff.1 h3⟩
 ·refine .inr ⟨g,cap,rfl,hg,hc,fun j hj=>?_⟩;have:=World.ownsRow.cells h' (g:=g) rfl j (.int .u16 (l[j]:Int)) (by rw[List.getElem?_map,List.getElem?_eq_getElem hj];rfl);rw[CG] at this;exact this
theorem jB {ops:Array Oper} {rest:List Oper} {o:Oper} {a:Act} {Q:Exit→Act→World→Prop} (w:World) (base:Nat) (v:Value) (l:List Nat) (c:Nat) {n:Int} (hn:n=(c:Int))
 (tJ:o.guard=none) (s x:Operand) (ho:o.op= .call {callee:= .builtin .append,args:= #[s,x],argTypes:= #[219,219]})
 (hs:a.eval s=v) (bE:rP w base v l) (hx:a.eval x= .slice (some ⟨w.heap.size,0,none⟩) 1 1) (hlen:l.length≤4000000000) (kW:base≤w.heap.size)
 (h:∀v' w',rP w' base v' (l++[c])→Below base w w'→wpList Tryz.prog ops Q rest (a.put o.dst v') w'):wpList Tryz.prog ops Q (o::rest) a (w.alloc (.cells #[.int .u16 n] 29)):=by
 subst hn;obtain⟨i0,hi,vN,rW,qK⟩:=info_parts Ps;refine wpList_append_own _ tJ s x 219 ho base 29 i0 (.int .u16 0) 1 2 Tryz.underlying219 hi vN rW qK rfl (by decide) v l.length (l.map eY) hs (World.ownsRow.alloc bE _) ⟨w.heap.size,0,none⟩ 1 1 [eY c] hx rfl
  ?_ ?_ (by unfold maxLen;omega) (by omega) (by simp;omega) fun v' w' h1 h2 _=>?_
 ·intro j u hj
  match j,hj with
  |0,hj=>simp at hj;subst hj;exact World.cell?_alloc_mark w #[eY c] 29 (0,0) 0
 ·intro u hu;simp at hu;subst hu;rfl
 ·refine h v' w' ?_ ?_;·unfold rP;simpa using h1
  ·have eN:Below base w (w.alloc (.cells #[.int .u16 (c:Int)] 29)):=(Below.refl _ _).alloc kW _;exact eN.grown h2 (by simp;omega) (fun k hk=>(World.ownsRow.lt bE k hk).1)
theorem vG {ops:Array Oper} {rest:List Oper} {o:Oper} {a:Act} {Q:Exit→Act→World→Prop} (w:World) (base:Nat) (v:Value) (l:List Nat) (c d:Nat) {n m:Int} (hn:n=(c:Int)) (hm:m=(d:Int))
 (tJ:o.guard=none) (s x:Operand) (ho:o.op= .call {callee:= .builtin .append,args:= #[s,x],argTypes:= #[219,219]})
 (hs:a.eval s=v) (bE:rP w base v l) (hx:a.eval x= .slice (some ⟨w.heap.size,0,none⟩) 2 2) (hlen:l.length≤4000000000) (kW:base≤w.heap.size)
 (h:∀v' w',rP w' base v' (l++[c,d])→Below base w w'→wpList Tryz.prog ops Q rest (a.put o.dst v') w'):wpList Tryz.prog ops Q (o::rest) a (w.alloc (.cells #[.int .u16 n,.int .u16 m] 29)):=by
 subst hn hm;obtain⟨i0,hi,vN,rW,qK⟩:=info_parts Ps;refine wpList_append_own _ tJ s x 219 ho base 29 i0 (.int .u16 0) 1 2 Tryz.underlying219 hi vN rW qK rfl (by decide) v l.length (l.map eY) hs (World.ownsRow.alloc bE _) ⟨w.heap.size,0,none⟩ 2 2 [eY c,eY d] hx rfl
  ?_ ?_ (by unfold maxLen;omega) (by omega) (by simp;omega) fun v' w' h1 h2 _=>?_
 ·intro j u hj
  match j,hj with
  |0,hj=>simp at hj;subst hj;exact World.cell?_alloc_mark w #[eY c,eY d] 29 (0,0) 0
  |1,hj=>simp at hj;subst hj;exact World.cell?_alloc_mark w #[eY c,eY d] 29 (0,0) 1
 ·intro u hu;simp at hu;rcases hu with rfl|rfl<;>rfl
 ·refine h v' w' ?_ ?_;·unfold rP;simpa using h1
  ·have eN:Below base w (w.alloc (.cells #[.int .u16 (c:Int),.int .u16 (d:Int)] 29)):=(Below.refl _ _).alloc kW _;exact eN.grown h2 (by simp;omega) (fun k hk=>(World.ownsRow.lt bE k hk).1)
def iC (o:Option (List Nat)) (w:World) (e:Ending) (w':World):Prop:=
 (match o with
 |none=>e=ET
 |some l=>∃v,e= .returned v∧rP w' w.heap.size v l)∧Below w.heap.size w w'
def tru:Value→Nat
 | .bool true=>1
 |_=>0
theorem iC.die {o:Option (List Nat)} {w w':World} (h:o=none) (hb:Below w.heap.size w w'):iC o w ET w':=by subst h;exact⟨rfl,hb⟩
theorem iC.val {o:Option (List Nat)} {l:List Nat} {v:Value} {w w':World} (h:o=some l) (hv:rP w' w.heap.size v l) (hb:Below w.heap.size w w'):iC o w (.returned v) w':=by subst h;exact⟨⟨v,rfl,hv⟩,hb⟩
theorem qS (s:List UInt8) (numbers:Bool) (hs:s.length≤1000000000) (w:World) (hW:Laid w):Calls Tryz.prog 215 #[.string (aA s),.bool numbers] w fun e w'=>iC (lG s numbers) w e w':=by
 by_cases h0:s=[]
 ·have HF:Hid (lG s numbers=some []):=hid (by unfold lG;rw[if_pos h0]);have he:(aA s).toList.isEmpty=true:=by rw[h0,cC];rfl
  clear h0;go_enter Tryz.func215,Tryz.ntmps215;go_wp2_with fail;go_ret;exact iC.val HF.out (rP.nil _ _) (Below.refl _ _)
 have he:=mM h0;have HR:=hid (SG numbers h0);have HW:=hid hW;clear hW h0;go_enter Tryz.func215,Tryz.ntmps215;go_wp2_with fail;go_loopw [0,5,6] (fun x a i wr=>∃(t:List UInt8) (acc:List Nat) (more:Bool),x= .string (aA t)∧rP wr w.heap.size a acc∧i= .bool more∧t.length≤1000000000∧acc.length≤8∧Hid (lG s numbers=if more then EX numbers acc t else some acc)∧Hid (Below w.heap.size w wr)) (fun x _ i _=>(eB x).length+tru i);case atStart=>exact⟨s,[],true,rfl,rP.nil _ _,rfl,hs,by simp,hid HR.out,hid (Below.refl _ _)⟩
 case round=>
  obtain⟨t,acc,more,rfl,bE,rfl,ht,Zj,hF,dR⟩:=hrel;have hwz:=dR.out.size;cases more with
  |false=>have HF:=hid (show lG s numbers=some acc from hF.out);clear hF;go_wp2_with fail;go_ret;exact iC.val HF.out bE dR.out
  |true=>
   have aT:lG s numbers=EX numbers acc t:=hF.out;have HC:=hid (fun W hW=>oG t 58 (by omega) W hW);have oN:=uM 58 t;have hln:=sN 58 t;have hcf:(bM 58 t).2.2=false→(bM 58 t).1=t∧(bM 58 t).2.1=[]:=by intro h;rw[IY (MO h)];exact⟨rfl,rfl⟩
   have k1:= @Wl numbers acc t;have k2:= @Wm acc t;have k3:= @Wn numbers acc t;generalize bM 58 t=z at*;obtain⟨p,r,more⟩:=z;simp only at HC oN hcf hln k1 k2 k3;obtain⟨VS,aH⟩:=oN;have HP:=hid (fun W=>Wc p (by omega) W);have hxc:=Pr p 46;have HX:=hid (fun W=>Bt (aA p) 46 46 rfl (Lib.indexByte p 46) (by rw[aC]) W);have HFo:=hid (fun W hW=>GH p (by omega) W hW);clear hF;cases more with
   |true=>
    have k:=k1 rfl Zj;clear k1 k2 k3 hcf HX HFo;rw[k] at aT;simp only[if_true] at hln;clear k;cases hpn:kC p with
    |none=>rw[hpn] at HP aT;have HF:Hid (lG s numbers=none):=hid aT;simp only[Y5,ET] at HP;clear aT hpn;go_wp2_with fail;rw[mN];refine(HC.out _ (HW.out.step dR.out)).mono ?_;rintro e w2 ⟨rfl,dE⟩;have cK:=bU dR dE hwz;clear dE;go_wp2_with fail;refine(HP.out _).mono ?_;rintro e w' ⟨rfl,rfl⟩;go_wp2_with fail;exact⟨rfl,iC.die HF.out cK.out⟩
    |some n=>
     have Ec:=EY hpn;rw[hpn] at HP aT;simp only[Y5] at HP aT;clear hpn;have MP:lG s numbers=if 8 < (acc++[n]).length then none else EX numbers (acc++[n]) r:=by rw[aT];simp
     have hl9:(acc++[n]).length≤9:=by simp;omega
     clear aT;go_wp2_with fail;rw[mN];refine(HC.out _ (HW.out.step dR.out)).mono ?_;rintro e w2 ⟨rfl,dE⟩;have cK:=bU dR dE hwz;have oU:=bE.below dE;have qK:=dE.size;clear dE bE;go_wp2_with fail;refine(HP.out _).mono ?_;rintro e w' ⟨rfl,rfl⟩;have JR:w.heap.size≤w2.heap.size:=by omega
     by_cases h8:8 < (acc++[n]).length;·have HF:Hid (lG s numbers=none):=hid (by rw[MP,if_pos h8]);clear MP;go_wp2_with (at_builtin;refine jB w2 w.heap.size _ acc n rfl rfl _ _ rfl rfl oU rfl (by omega) JR ?_;intro v1 w5 dJ eN;obtain⟨A,c,Dx⟩:=dJ.len;generalize acc++[n]=CS at*;subst Dx);have iI:=hid (cK.out.trans (eN.mono (Nat.le_refl _)));exact⟨rfl,iC.die HF.out iI.out⟩
     ·have HF:Hid (lG s numbers=EX numbers (acc++[n]) r):=hid (by rw[MP,if_neg h8]);clear MP;go_wp2_with (at_builtin;refine jB w2 w.heap.size _ acc n rfl rfl _ _ rfl rfl oU rfl (by omega) JR ?_;intro v1 w5 dJ eN;obtain⟨A,c,Dx⟩:=dJ.len;generalize acc++[n]=CS at*;subst Dx);have iI:=hid (cK.out.trans (eN.mono (Nat.le_refl _)));have h8':CS.length≤8:=by omega
      go_roundw;case rel=>exact⟨r,CS,true,rfl,dJ,rfl,by omega,h8',hid HF.out,iI⟩
      case measure=>simp[eB,aC,tru];omega
   |false=>
    obtain⟨hpt,rfl⟩:=hcf rfl;subst hpt;have k2':=k2 rfl;have k3':=k3 rfl;generalize Lib.indexByte p 46=ix at*;generalize hbq:p.contains 46=b at*;clear k1 k2 k3 hcf hln aH VS hbq;have dO:(numbers=true∧b=true)∨(numbers&&b)=false:=by cases numbers<;>cases b<;>simp
    rcases dO with⟨rfl,rfl⟩|hnb
    ·have k:=k2' rfl;rw[k] at aT;clear k k2' k3' HP;cases hfn:kD p with
     |none=>rw[hfn] at HFo aT;have HF:Hid (lG s true=none):=hid aT;simp only[Y8,ET] at HFo;clear aT hfn;go_wp2_with fail;rw[mN];refine(HC.out _ (HW.out.step dR.out)).mono ?_;rintro e w2 ⟨rfl,dE⟩;have cK:=bU dR dE hwz;clear dE;go_wp2_with fail;refine(HX.out _).mono ?_;rintro e w' ⟨rfl,rfl⟩;go_wp2_with fail;refine(HFo.out _ (HW.out.step cK.out)).mono ?_;rintro e w3 ⟨rfl,cF⟩;have vC:=aR cK cF;clear cF;go_wp2_with fail;exact⟨rfl,iC.die HF.out vC.out⟩
     |some n=>
      obtain⟨x,y⟩:=n;rw[hfn] at HFo aT;simp only[Y8] at HFo aT;clear hfn;have MP:lG s true=if 8 < (acc++[x,y]).length then none else some (acc++[x,y]):=by rw[aT];simp
      have hl9:(acc++[x,y]).length≤10:=by simp;omega
      clear aT;go_wp2_with fail;rw[mN];refine(HC.out _ (HW.out.step dR.out)).mono ?_;rintro e w2 ⟨rfl,dE⟩;have cK:=bU dR dE hwz;have oU:=bE.below dE;clear dE bE;go_wp2_with fail;refine(HX.out _).mono ?_;rintro e w' ⟨rfl,rfl⟩;go_wp2_with fail;refine(HFo.out _ (HW.out.step cK.out)).mono ?_;rintro e w3 ⟨rfl,cF⟩;have vC:=aR cK cF;have FW:=oU.below cF;have hw3:w.heap.size≤w3.heap.size:=vC.out.size;clear cF oU;by_cases h8:8 < (acc++[x,y]).length;·have HF:Hid (lG s true=none):=hid (by rw[MP,if_pos h8]);clear MP;go_wp2_with (at_builtin;refine vG w3 w.heap.size _ acc x y rfl rfl rfl _ _ rfl rfl FW rfl (by omega) hw3 ?_;intro v1 w5 dJ eN;obtain⟨A,c,Dx⟩:=dJ.len;generalize acc++[x,y]=CS at*;subst Dx);have iI:=hid (vC.out.trans (eN.mono (Nat.le_refl _)));exact⟨rfl,iC.die HF.out iI.out⟩
      ·have HF:Hid (lG s true=some (acc++[x,y])):=hid (by rw[MP,if_neg h8]);clear MP;go_wp2_with (at_builtin;refine vG w3 w.heap.size _ acc x y rfl rfl rfl _ _ rfl rfl FW rfl (by omega) hw3 ?_;intro v1 w5 dJ eN;obtain⟨A,c,Dx⟩:=dJ.len;generalize acc++[x,y]=CS at*;subst Dx);have iI:=hid (vC.out.trans (eN.mono (Nat.le_refl _)));have h8':CS.length≤8:=by omega
       go_roundw;case rel=>exact⟨[],CS,false,rfl,dJ,rfl,by simp,h8',hid HF.out,iI⟩
       case measure=>simp[eB,aC,tru]
    ·have k:=k3' hnb;rw[k] at aT;clear k k2' k3' HFo;cases hpn:kC p with
     |none=>
      rw[hpn] at HP aT;have HF:Hid (lG s numbers=none):=hid aT;simp only[Y5,ET] at HP;clear aT hpn;cases numbers with
      |false=>go_wp2_with fail;rw[mN];refine(HC.out _ (HW.out.step dR.out)).mono ?_;rintro e w2 ⟨rfl,dE⟩;have cK:=bU dR dE hwz;clear dE;go_wp2_with fail;refine(HP.out _).mono ?_;rintro e w' ⟨rfl,rfl⟩;go_wp2_with fail;exact⟨rfl,iC.die HF.out cK.out⟩
      |true=>
       obtain rfl:b=false:=by simpa using hnb
       go_wp2_with fail;rw[mN];refine(HC.out _ (HW.out.step dR.out)).mono ?_;rintro e w2 ⟨rfl,dE⟩;have cK:=bU dR dE hwz;clear dE;go_wp2_with fail;refine(HX.out _).mono ?_;rintro e w' ⟨rfl,rfl⟩;go_wp2_with fail;refine(HP.out _).mono ?_;rintro e w' ⟨rfl,rfl⟩;go_wp2_with fail;exact⟨rfl,iC.die HF.out cK.out⟩
     |some n=>
      rw[hpn] at HP aT;simp only[Y5] at HP aT;clear hpn;have MP:lG s numbers=if 8 < (acc++[n]).length then none else some (acc++[n]):=by rw[aT];simp
      have hl9:(acc++[n]).length≤9:=by simp;omega
      clear aT;cases numbers with
      |false=>
       go_wp2_with fail;rw[mN];refine(HC.out _ (HW.out.step dR.out)).mono ?_;rintro e w2 ⟨rfl,dE⟩;have cK:=bU dR dE hwz;have oU:=bE.below dE;have JR:w.heap.size≤w2.heap.size:=cK.out.size;clear dE bE;go_wp2_with fail;refine(HP.out _).mono ?_;rintro e w' ⟨rfl,rfl⟩;by_cases h8:8 < (acc++[n]).length;·have HF:Hid (lG s false=none):=hid (by rw[MP,if_pos h8]);clear MP;go_wp2_with (at_builtin;refine jB w2 w.heap.size _ acc n rfl rfl _ _ rfl rfl oU rfl (by omega) JR ?_;intro v1 w5 dJ eN;obtain⟨A,c,Dx⟩:=dJ.len;generalize acc++[n]=CS at*;subst Dx);have iI:=hid (cK.out.trans (eN.mono (Nat.le_refl _)));exact⟨rfl,iC.die HF.out iI.out⟩
       ·have HF:Hid (lG s false=some (acc++[n])):=hid (by rw[MP,if_neg h8]);clear MP;go_wp2_with (at_builtin;refine jB w2 w.heap.size _ acc n rfl rfl _ _ rfl rfl oU rfl (by omega) JR ?_;intro v1 w5 dJ eN;obtain⟨A,c,Dx⟩:=dJ.len;generalize acc++[n]=CS at*;subst Dx);have iI:=hid (cK.out.trans (eN.mono (Nat.le_refl _)));have h8':CS.length≤8:=by omega
        go_roundw;case rel=>exact⟨[],CS,false,rfl,dJ,rfl,by simp,h8',hid HF.out,iI⟩
        case measure=>simp[eB,aC,tru]
      |true=>
       obtain rfl:b=false:=by simpa using hnb
       go_wp2_with fail;rw[mN];refine(HC.out _ (HW.out.step dR.out)).mono ?_;rintro e w2 ⟨rfl,dE⟩;have cK:=bU dR dE hwz;have oU:=bE.below dE;have JR:w.heap.size≤w2.heap.size:=cK.out.size;clear dE bE;go_wp2_with fail;refine(HX.out _).mono ?_;rintro e w' ⟨rfl,rfl⟩;go_wp2_with fail;refine(HP.out _).mono ?_;rintro e w' ⟨rfl,rfl⟩;by_cases h8:8 < (acc++[n]).length;·have HF:Hid (lG s true=none):=hid (by rw[MP,if_pos h8]);clear MP;go_wp2_with (at_builtin;refine jB w2 w.heap.size _ acc n rfl rfl _ _ rfl rfl oU rfl (by omega) JR ?_;intro v1 w5 dJ eN;obtain⟨A,c,Dx⟩:=dJ.len;generalize acc++[n]=CS at*;subst Dx);have iI:=hid (cK.out.trans (eN.mono (Nat.le_refl _)));exact⟨rfl,iC.die HF.out iI.out⟩
       ·have HF:Hid (lG s true=some (acc++[n])):=hid (by rw[MP,if_neg h8]);clear MP;go_wp2_with (at_builtin;refine jB w2 w.heap.size _ acc n rfl rfl _ _ rfl rfl oU rfl (by omega) JR ?_;intro v1 w5 dJ eN;obtain⟨A,c,Dx⟩:=dJ.len;generalize acc++[n]=CS at*;subst Dx);have iI:=hid (cK.out.trans (eN.mono (Nat.le_refl _)));have h8':CS.length≤8:=by omega
        go_roundw;case rel=>exact⟨[],CS,false,rfl,dJ,rfl,by simp,h8',hid HF.out,iI⟩
        case measure=>simp[eB,aC,tru]
end Go.Proofs.YtmgmclkplepapaaGreatDoor
