/- Part of the proof of TopBoundsUptoCardSaid. Conditions: none beyond the statement. -/
import Derived.Shelf.Spec.DecodeRune
import Derived.Shelf.Spec.TrailingZeros
import Derived.Test.YtmgmclkplepapaaGreatDoorPt23
set_option linter.all false
set_option maxRecDepth 100000
set_option maxHeartbeats 64000000
namespace Go.Proofs.YtmgmclkplepapaaGreatDoor
open Go.RowKit
def SE:Go.Shelf.Ren:=⟨fun|32=>83|49=>125|n=>n,fun|0=>0|3=>3|4=>4|5=>5|21=>21|25=>182|30=>25|33=>123|66=>183|68=>185|69=>186|n=>n,fun|2=>1|3=>2|n=>n⟩
theorem ahL:Go.Proofs.Lays7.n32 Tryz.prog SE:={
 mixed:=by kernel_rfl
 f32:=(dK Tryz.func83 (by kernel_rfl))
 f49:=(dK Tryz.func125 (by kernel_rfl))
 t0:=Tryz.underlying0
 a0:=Tryz.isAgg0
 z0:=Tryz.sizeOf0
 v0:=Tryz.zeroValue0
 i0:=by kernel_rfl
 t3:=Tryz.underlying3
 a3:=Tryz.isAgg3
 z3:=Tryz.sizeOf3
 v3:=Tryz.zeroValue3
 i3:=by kernel_rfl
 t4:=Tryz.underlying4
 a4:=Tryz.isAgg4
 z4:=Tryz.sizeOf4
 v4:=Tryz.zeroValue4
 i4:=by kernel_rfl
 t5:=Tryz.underlying5
 a5:=Tryz.isAgg5
 z5:=Tryz.sizeOf5
 v5:=Tryz.zeroValue5
 i5:=by kernel_rfl
 t21:=Tryz.underlying21
 a21:=Tryz.isAgg21
 z21:=Tryz.sizeOf21
 v21:=Tryz.zeroValue21
 i21:=by kernel_rfl
 t25:=Tryz.underlying182
 a25:=Tryz.isAgg182
 z25:=Tryz.sizeOf182
 v25:=Tryz.zeroValue182
 i25:=by kernel_rfl
 t30:=Tryz.underlying25
 a30:=Tryz.isAgg25
 z30:=Tryz.sizeOf25
 v30:=Tryz.zeroValue25
 i30:=by kernel_rfl
 t33:=Tryz.underlying123
 a33:=Tryz.isAgg123
 z33:=Tryz.sizeOf123
 v33:=Tryz.zeroValue123
 i33:=by kernel_rfl
 t66:=Tryz.underlying183
 a66:=Tryz.isAgg183
 z66:=Tryz.sizeOf183
 t68:=Tryz.underlying185
 a68:=Tryz.isAgg185
 z68:=Tryz.sizeOf185
 v68:=Tryz.zeroValue185
 i68:=by kernel_rfl
 t69:=Tryz.underlying186
 a69:=Tryz.isAgg186
 z69:=Tryz.sizeOf186
 v69:=Tryz.zeroValue186
 i69:=by kernel_rfl
 g2:=by kernel_rfl
 g3:=by kernel_rfl}
def SF:Go.Shelf.Ren:=⟨fun|27=>172|28=>197|29=>198|n=>n,fun|0=>0|3=>3|4=>4|5=>5|22=>130|25=>182|27=>28|53=>212|54=>213|n=>n,fun|0=>4|1=>5|n=>n⟩
theorem ahM:Go.Proofs.Lays7.n27 Tryz.prog SF:={
 mixed:=by kernel_rfl
 f27:=(dK Tryz.func172 (by kernel_rfl))
 f28:=(dK Tryz.func197 (by kernel_rfl))
 f29:=(dK Tryz.func198 (by kernel_rfl))
 t0:=Tryz.underlying0
 a0:=Tryz.isAgg0
 z0:=Tryz.sizeOf0
 v0:=Tryz.zeroValue0
 i0:=by kernel_rfl
 t3:=Tryz.underlying3
 a3:=Tryz.isAgg3
 z3:=Tryz.sizeOf3
 v3:=Tryz.zeroValue3
 i3:=by kernel_rfl
 t4:=Tryz.underlying4
 a4:=Tryz.isAgg4
 z4:=Tryz.sizeOf4
 v4:=Tryz.zeroValue4
 i4:=by kernel_rfl
 t5:=Tryz.underlying5
 a5:=Tryz.isAgg5
 z5:=Tryz.sizeOf5
 v5:=Tryz.zeroValue5
 i5:=by kernel_rfl
 t22:=Tryz.underlying130
 a22:=Tryz.isAgg130
 z22:=Tryz.sizeOf130
 v22:=Tryz.zeroValue130
 i22:=by kernel_rfl
 t25:=Tryz.underlying182
 a25:=Tryz.isAgg182
 z25:=Tryz.sizeOf182
 v25:=Tryz.zeroValue182
 i25:=by kernel_rfl
 t27:=Tryz.underlying28
 a27:=Tryz.isAgg28
 z27:=Tryz.sizeOf28
 v27:=Tryz.zeroValue28
 i27:=by kernel_rfl
 t53:=Tryz.underlying212
 a53:=Tryz.isAgg212
 z53:=Tryz.sizeOf212
 v53:=Tryz.zeroValue212
 i53:=by kernel_rfl
 t54:=Tryz.underlying213
 a54:=Tryz.isAgg213
 z54:=Tryz.sizeOf213
 g0:=by kernel_rfl
 g1:=by kernel_rfl}
def eR (w:World) (v:Value) (l:List UInt8):Prop:=
 (v= .slice none 0 0∧l=[])∨
 ∃g off c,v= .slice (some ⟨g,off,none⟩) l.length c∧l.length≤c∧c≤maxLen∧∀j (h:j < l.length),w.cell? ⟨g,off+j,none⟩=some (.int .u8 (l[j].toNat:Int))
theorem eR.len {w:World} {v:Value} {l:List UInt8} (h:eR w v l):∃a c,v= .slice a l.length c∧l.length≤c∧c≤maxLen:=by
 rcases h with⟨rfl,rfl⟩|⟨g,off,c,rfl,hc,hm,_⟩;·exact⟨none,0,rfl,Nat.le_refl _,Nat.zero_le _⟩
 ·exact⟨_,c,rfl,hc,hm⟩
theorem eR.below {w w':World} {v:Value} {l:List UInt8} (h:eR w v l) (hb:Below w.heap.size w w'):eR w' v l:=by
 rcases h with h|⟨g,off,c,hv,hc,hm,aW⟩;·exact .inl h
 ·refine .inr ⟨g,off,c,hv,hc,hm,fun j hj=>?_⟩;have h1:=aW j hj;have hg:g < w.heap.size:=by
   rcases Nat.lt_or_ge g w.heap.size with bC|Ao;·exact bC
   ·simp[World.cell?,Array.getElem?_eq_none Ao] at h1
  exact(hb.cell (p:=⟨g,off+j,none⟩) hg).trans h1
theorem eR.form {w:World} {v:Value} {l:List UInt8} (h:eR w v l) (hn:l≠[]):∃g off c,v= .slice (some ⟨g,off,none⟩) l.length c∧l.length≤c∧c≤maxLen∧∀j (h:j < l.length),w.cell? ⟨g,off+j,none⟩=some (.int .u8 (l[j].toNat:Int)):=by
 rcases h with⟨_,h⟩|h;·exact absurd h hn
 ·exact h
theorem eR.cut {w:World} {g off c k:Nat} {l:List UInt8} (hc:l.length≤c) (hm:c≤maxLen) (h:∀j (h:j < l.length),w.cell? ⟨g,off+j,none⟩=some (.int .u8 (l[j].toNat:Int))) (hk:k≤l.length):
 eR w (.slice (some ⟨g,off+k,none⟩) (l.drop k).length (c - k)) (l.drop k):=by
 refine .inr ⟨g,off+k,c - k,rfl,by rw[List.length_drop];omega,by omega,fun j hj=>?_⟩;rw[List.length_drop] at hj;have:=h (k+j) (by omega);rw[List.getElem_drop,Nat.add_assoc];exact this
theorem fC.UA {w:World} {base:Nat} {v:Value} {l:List UInt8} (h:fC w base v l):eR w v l:=by
 have h':=h;obtain⟨h1,h2⟩:=h;rcases h2 with⟨rfl,h3⟩|⟨g,cap,cur,rfl,hg,hh,hc,hm,hs,ht⟩;·exact .inl ⟨rfl,List.length_eq_zero_iff.1 h3⟩
 ·refine .inr ⟨g,0,cap,rfl,hc,hm,fun j hj=>?_⟩;have:=World.ownsRow.cells h' (g:=g) rfl j (.int .u8 (l[j].toNat:Int)) (by rw[List.getElem?_map,List.getElem?_eq_getElem hj];rfl);rw[CH] at this;rw[Nat.zero_add];exact this
def ML (c:UInt8):Value:= .tuple #[.int .u8 ((eL c.toNat).1:Int),.int .u8 ((eL c.toNat).2.1:Int),.int .i64 ((eL c.toNat).2.2:Int)]
theorem Pr (c:UInt8) (w:World):Calls Tryz.prog 126 #[.int .u8 (c.toNat:Int)] w fun e w'=>e= .returned (ML c)∧w=w':=by
 have bC:c.toNat < 256:=c.toNat_lt;have hb:Hid (ML c= .tuple #[.int .u8 ((eL c.toNat).1:Int),.int .u8 ((eL c.toNat).2.1:Int),.int .i64 ((eL c.toNat).2.2:Int)]):=hid rfl;have hn:Hid (eL c.toNat=if 0xc2≤c.toNat∧c.toNat≤0xdf then(0x80,0xbf,2) else if c.toNat=0xe0 then(0xa0,0xbf,3) else if c.toNat=0xed then(0x80,0x9f,3)
 else if 0xe1≤c.toNat∧c.toNat≤0xef then(0x80,0xbf,3) else if c.toNat=0xf0 then(0x90,0xbf,4) else if 0xf1≤c.toNat∧c.toNat≤0xf3 then(0x80,0xbf,4)
 else if c.toNat=0xf4 then(0x80,0x8f,4) else(0,0,1)):=hid rfl
 go_enter Tryz.func126,Tryz.ntmps126;go_wp2;all_goals go_ret3
 all_goals refine⟨?_,rfl⟩
 all_goals(go_light;rw[hb.out,hn.out];(repeat' split)<;>first|rfl|(exfalso;(try simp only[beq_iff_eq,beq_eq_false_iff_ne] at*);omega))
theorem Wk (low high:Nat) (l:List UInt8):yZ 0 low high l=0:=rfl
theorem Zh (m low high:Nat):yZ m low high []=0:=by cases m<;>rfl
theorem Wl (m low high:Nat) (c:UInt8) (t:List UInt8):yZ (m+1) low high (c::t)=if low≤c.toNat∧c.toNat≤high then 1+yZ m 0x80 0xbf t else 0:=rfl
theorem SG (c:Nat):(eL c).1≤255∧(eL c).2.1≤255∧1≤(eL c).2.2∧(eL c).2.2≤4:=by
 unfold eL
 (repeat' split)<;>simp
theorem IU (v:Value) (l:List UInt8) (w:World) (hv:eR w v l) (eG:l≠[]):Calls Tryz.prog 84 #[v] w fun e w'=>e= .returned (.int .i64 (lB l:Int))∧w=w':=by
 obtain⟨g,off,c,rfl,hc,hm,aW⟩:=hv.form eG;unfold maxLen at hm;have h0:0 < l.length:=List.length_pos_iff.mpr eG;have hc0:=aW 0 h0;rw[Nat.add_zero] at hc0;have hb:Hid (lB l=1+yZ ((eL (l[0]).toNat).2.2 - 1) (eL (l[0]).toNat).1 (eL (l[0]).toNat).2.1 (l.drop 1)):=hid (by
  cases l with
  |nil=>exact absurd rfl eG
  |cons c t=>rfl)
 have HB:=hid (fun w=>Pr l[0] w);obtain⟨b1,b2,b3,b4⟩:=SG (l[0]).toNat;have HC:=hid aW;clear aW eG;generalize hx:l[0]=x at*;unfold ML at HB;obtain⟨z,hz⟩:∃z,z=eL x.toNat:=⟨_,rfl⟩;rw[←hz] at HB hb b1 b2 b3 b4;obtain⟨lo,hi,sz⟩:=z;simp only at HB hb b1 b2 b3 b4;clear hz hx;go_enter Tryz.func84,Tryz.ntmps84;go_wp2_with fail;refine(HB.out _).mono ?_;rintro e w' ⟨rfl,rfl⟩;go_wp2_with fail;go_loopw [3,4,6] (fun a b n' wr=>∃n low high:Nat,a= .int .u8 (low:Int)∧b= .int .u8 (high:Int)∧n'= .int .i64 (n:Int)∧low≤255∧high≤255∧1≤n∧n≤sz∧n≤l.length∧Hid (lB l=n+yZ (sz - n) low high (l.drop n))∧w=wr) (fun _ _ n' _=>sz - (intOf n').toNat);case atStart=>exact⟨1,lo,hi,rfl,rfl,rfl,b1,b2,by omega,by omega,by omega,hb,rfl⟩
 case round=>
  obtain⟨n,low,high,rfl,rfl,rfl,yX,apG,hn1,hn2,hn3,hf,rfl⟩:=hrel;by_cases h1:n < sz
  ·by_cases h2:n < l.length
   ·have hcn:=HC.out n h2;have nW:=hf.out;obtain⟨m,hm'⟩:∃m,sz - n=m+1:=⟨sz - n - 1,by omega⟩;rw[List.drop_eq_getElem_cons h2,hm',Wl] at nW;have iF:(l[n]).toNat < 256:=(l[n]).toNat_lt;generalize l[n]=y at*;by_cases h3:low≤y.toNat
    ·by_cases h4:y.toNat≤high
     ·rw[if_pos ⟨h3,h4⟩] at nW;have HF:Hid (lB l=(n+1)+yZ (sz - (n+1)) 128 191 (l.drop (n+1))):=hid (by rw[nW,show sz - (n+1)=m by omega];omega);clear hf nW hm';go_wp2_with fail;go_roundw;case rel=>exact⟨n+1,128,191,rfl,rfl,by go_num,by omega,by omega,by omega,by omega,by omega,HF,trivial⟩
      case measure=>simp[intOf];omega
     ·rw[if_neg (fun h=>h4 h.2)] at nW;have HF:Hid (lB l=n):=hid nW;clear hf nW hm';go_wp2_with fail;go_ret;exact⟨nU (by rw[HF.out]),rfl⟩
    ·rw[if_neg (fun h=>h3 h.1)] at nW;have HF:Hid (lB l=n):=hid nW;clear hf nW hm';go_wp2_with fail;go_ret;exact⟨nU (by rw[HF.out]),rfl⟩
   ·have HF:Hid (lB l=n):=hid (by rw[hf.out,List.drop_eq_nil_of_le (by omega),Zh];rfl);clear hf;go_wp2_with fail;go_ret;exact⟨nU (by rw[HF.out]),rfl⟩
  ·have HF:Hid (lB l=n):=hid (by rw[hf.out,show sz - n=0 by omega,Wk];rfl);clear hf;go_wp2_with fail;go_ret;exact⟨nU (by rw[HF.out]),rfl⟩
theorem Bt (l:List UInt8) (j:Nat):(aA l).get! j=l.getD j 0:=by show(aA l).data[j]! =_;rw[getElem!_def,List.getD_eq_getElem?_getD];unfold aA;simp;cases l[j]? <;>rfl
theorem BZ (l:List UInt8) (i:Nat):Utf8.decode (aA l) i=cH (l.drop i):=by rw[Lib.decode_at];unfold cH;rw[Bt,Bt,Bt,Bt,aD];simp only[List.length_drop,List.getD_eq_getElem?_getD,List.getElem?_drop,Nat.add_zero]
theorem EX (v:Value) (l:List UInt8) (w:World) (hW:Laid w) (hv:eR w v l) (eG:l≠[]):
 Calls Tryz.prog 83 #[v] w fun e w'=>e= .returned (.tuple #[.int .i32 ((cH l).1:Int),.int .i64 ((cH l).2:Int)])∧Below w.heap.size w w':=by
 obtain⟨g,off,c,rfl,hc,hm,aW⟩:=hv.form eG;have h0:0 < l.length:=List.length_pos_iff.mpr eG;have:=Any7.utf8_DecodeRune ahL (aA l) g off c w hW.utf (fun j hj=>by
  rw[aD] at hj;rw[aW j hj,Bt];simp[List.getD_eq_getElem?_getD,hj])
 rw[aD] at this;refine this.mono ?_;rintro e w' ⟨rfl,hb⟩;refine⟨?_,hb⟩;have hd:Lib.decodeGo (aA l)=cH l:=by unfold Lib.decodeGo;rw[if_neg (by rw[aD];omega),BZ];rfl
 rw[hd]
theorem Kp (B b:Nat) (bs:List Value) (g off c:Nat) (l:List UInt8) (w:World) (h:Lib.IsBuilder 65 5 B b bs w) (hlen:bs.length+l.length≤4000000000) (Ie:B≤w.heap.size) (hl:l≠[])
 (aW:∀w',Below B w w'→∀j (h:j < l.length),w'.cell? ⟨g,off+j,none⟩=some (iP l[j])):
 Calls Tryz.prog 85 #[.pointer (some ⟨b,0,none⟩),.slice (some ⟨g,off,none⟩) l.length c] w fun e w'=>e= .returned (.tuple #[.int .i64 (l.length:Int),.nilIface])∧(Lib.BuilderAt 65 5 B b (.pointer (some ⟨b,0,none⟩)) (bs++l.map iP) w'∧Below B w w'):=by
 obtain⟨i0,hi,vO,rX,qL⟩:=info_parts infoByte;go_enter Tryz.func85,Tryz.ntmps85;go_wp2_with (go_at_call 49;refine(qN B b bs _ h).mono ?_);rintro e w1 ⟨rfl,h1,eN⟩;obtain⟨hB,v,Dt,bE,eG⟩:=h1;have c0:w1.cell? ⟨b,0,none⟩=some (.pointer (some ⟨b,0,none⟩)):=by rw[Lib.cell_of_heap Dt];rfl
 have c1:w1.cell? ⟨b,1,none⟩=some v:=by rw[Lib.cell_of_heap Dt];rfl
 have akO:=aW w1 eN;have anO:=hid akO;clear akO aW;go_wp2_with (at_builtin;refine wpList_append_own _ rfl _ _ 25 rfl B 5 i0 (.int .u8 0) 1 1 Tryz.underlying25 hi vO rX qL rfl (by decide) _ _ _ rfl bE ⟨g,off,none⟩ l.length c (l.map iP) rfl (by simp) ?c1 ?c2 ?c3 ?c4 ?c5 ?_);case c1=>
  intro j u hj;have KW:j < l.length:=by have:=(List.getElem?_eq_some_iff.1 hj).1;simpa using this
  rw[List.getElem?_map,List.getElem?_eq_getElem KW] at hj;simp at hj;rw[Addr.add_lit,anO.out j KW,hj]
 case c2=>intro u hu;obtain⟨b,_,rfl⟩:=List.mem_map.1 hu;rfl
 case c3=>unfold maxLen;omega
 case c4=>omega
 case c5=>have:=eN.size;omega
 intro v' w2 A7 uW _;have bC:b < w1.heap.size:=by
  rcases Nat.lt_or_ge b w1.heap.size with h'|h';·exact h'
  ·simp[Array.getElem?_eq_none h'] at Dt
 have dE:w2.heap[b]? =some (.cells #[.pointer (some ⟨b,0,none⟩),v] 65 (0,0)):=by rw[uW.block b bC (fun e=>eG e.symm)];exact Dt
 have d0:w2.cell? ⟨b,0,none⟩=some (.pointer (some ⟨b,0,none⟩)):=by rw[Lib.cell_of_heap dE];rfl
 have d1:w2.cell? ⟨b,1,none⟩=some v:=by rw[Lib.cell_of_heap dE];rfl
 have f1:w2.frozen? ⟨b,1,none⟩=false:=Lib.frozen_of_heap dE 1;obtain⟨ao,n',cap,rfl⟩:∃ao n' cap,v'= .slice ao n' cap:=by
  rcases A7.2 with⟨hv,_⟩|⟨g,cap,cur,hv,_⟩;·exact⟨_,_,_,hv⟩
  ·exact⟨_,_,_,hv⟩
 go_wp2;go_ret2;refine⟨rfl,?_,?_⟩;·exact Lib.BuilderAt.put (T:=65) (e:=5) hB dE (bs':=bs++l.map iP) (by simpa using A7) (by decide)
 ·exact(eN.grown uW (by have:=eN.size;omega) (fun k hk=>(bE.lt k hk).1)).setCell (p:=⟨b,1,none⟩) hB _
theorem MM (w:World) (B b:Nat) (m l:List UInt8) (g off c:Nat) (h:rY w B b m) (hlen:m.length+l.length≤4000000000) (Ie:B≤w.heap.size) (hl:l≠[]) (hg:g < B)
 (aW:∀j (h:j < l.length),w.cell? ⟨g,off+j,none⟩=some (.int .u8 (l[j].toNat:Int))):
 Calls Tryz.prog 85 #[.pointer (some ⟨b,0,none⟩),.slice (some ⟨g,off,none⟩) l.length c] w fun e w'=>e= .returned (.tuple #[.int .i64 (l.length:Int),.nilIface])∧rY w' B b (m++l)∧Below B w w':=by
 refine(Kp B b (Lib.byteCells m) g off c l w h (by rw[rZ];exact hlen) Ie hl (fun w' hb j hj=>?_)).mono ?_;·exact(hb.cell (p:=⟨g,off+j,none⟩) hg).trans (aW j hj)
 ·rintro e w' ⟨rfl,h1,h2⟩;refine⟨rfl,.inr ?_,h2⟩;have:Lib.byteCells (m++l)=Lib.byteCells m++l.map iP:=by simp[pE,iP]
  rw[this];exact h1
theorem Kq {w w':World} {base:Nat} {e:TypeId} {size:Nat} {v:Value} {n:Nat} {xs:List Value} (h:w.ownsRow base e size v n xs) (hb:Below w.heap.size w w'):w'.ownsRow base e size v n xs:=by
 obtain⟨h1,h2⟩:=h;refine⟨h1,?_⟩;rcases h2 with h2|⟨g,cap,cur,hv,hg,hh,r⟩;·exact .inl h2
 ·exact .inr ⟨g,cap,cur,hv,hg,by rw[hb.block g (Array.getElem?_eq_some_iff.1 hh).1];exact hh,r⟩
theorem rP {w w':World} {B b:Nat} {l:List UInt8} (h:rY w B b l) (hb:Below w.heap.size w w'):rY w' B b l:=by
 have key:∀p,Lib.BuilderAt 65 5 B b p (Lib.byteCells l) w→Lib.BuilderAt 65 5 B b p (Lib.byteCells l) w':=by rintro p ⟨h1,v,h2,h3,h4⟩;exact⟨h1,v,by rw[hb.block b (Array.getElem?_eq_some_iff.1 h2).1];exact h2,Kq h3 hb,h4⟩
 rcases h with h|h;·exact .inl (key _ h)
 ·exact .inr (key _ h)
theorem CR (c:UInt8):∀l:List UInt8,(Lib.indexByte l c= -1∧∀x∈l,x≠c)∨∃a r,l=a++c::r∧(∀x∈a,x≠c)∧Lib.indexByte l c=(a.length:Int)
 |[]=> .inl ⟨rfl,by simp⟩
 |b::l=>by
  by_cases hb:b=c;·subst hb;exact .inr ⟨[],l,rfl,by simp,by simp[Lib.indexByte]⟩
  ·have hbf:(b==c)=false:=by simpa using hb
   rcases CR c l with⟨h1,h2⟩|⟨a,r,h1,h2,h3⟩
   ·refine .inl ⟨by simp[Lib.indexByte,hbf,h1],fun x hx=>?_⟩;rcases List.mem_cons.1 hx with rfl|hx;·exact hb
    ·exact h2 x hx
   ·refine .inr ⟨b::a,r,by rw[h1];rfl,fun x hx=>?_,?_⟩
    ·rcases List.mem_cons.1 hx with rfl|hx;·exact hb
     ·exact h2 x hx
    ·have h4:¬(Lib.indexByte l c= -1):=by omega
     rw[Lib.indexByte,hbf,h3];have h5:((a.length:Int)== -1)=false:=by rw[beq_eq_false_iff_ne];omega
     rw[h5];simp
theorem Bu (s:ByteArray) (c:UInt8) (n:Int) (hn:n=(c.toNat:Int)) (j:Int) (hj:Lib.indexByte s.data.toList c=j) (w:World):
 Calls Tryz.prog 81 #[.string s,.int .u8 n] w fun e w'=>e= .returned (.int .i64 j)∧w=w':=by
 subst hn hj;refine(Tryz.strings_IndexByte s (c.toNat:Int) w).mono ?_;rintro e w' ⟨rfl,rfl⟩;refine⟨?_,rfl⟩;simp
theorem IV (s:ByteArray) (r t:List UInt8) (n:Nat) (h:zL r=some (t,n)) (hs:s.data.toList=38::r) (hz:s.size≤1000000000) (w:World):
 Calls Tryz.prog 82 #[.string s] w fun e w'=>e= .returned (.tuple #[.string (aA t),.int .i64 ((n+1:Nat):Int)])∧Below w.heap.size w w':=by
 have:=Aq s r w hs hz;rw[h] at this;exact this
theorem MN (s:ByteArray) (r:List UInt8) (h:zL r=none) (hs:s.data.toList=38::r) (hz:s.size≤1000000000) (w:World):
 Calls Tryz.prog 82 #[.string s] w fun e w'=>e= .returned (.tuple #[.string ⟨#[38]⟩,.int .i64 1])∧Below w.heap.size w w':=by
 have:=Aq s r w hs hz;rw[h] at this;exact this
theorem Kr (s:ByteArray) (w:World) (hs:s.size≤1000000000):
 Calls Tryz.prog 47 #[.string s] w fun e w'=>e= .returned (.string (aA (pN s.data.toList)))∧Below w.heap.size w w':=by
 have K6:=rY.fresh w;have sW:Below w.heap.size w (w.alloc (.cells #[.pointer none,.slice none 0 0] 65)):=(Below.refl _ _).alloc (Nat.le_refl _) _;have IE:=hid K6;have UB:=hid sW;have tF:s.data.toList.length=s.size:=by simp
 have tH:s=aA s.data.toList:=(BR s).symm;obtain⟨S,hS⟩:∃S,S=s.data.toList:=⟨_,rfl⟩;rw[←hS] at tF tH⊢;rw[←tF] at hs;subst tH;clear K6 sW tF hS;go_enter Tryz.func47,Tryz.ntmps47;go_wp2_with fail;go_loopw [0] (fun v wr=>∃l rest:List UInt8,v= .string (aA rest)∧Hid (pN S=l++pN rest)∧l.length+rest.length≤S.length∧rY wr w.heap.size w.heap.size l∧Below w.heap.size w wr) (fun v _=>match v with| .string x=>x.size|_=>0);case atStart=>exact⟨[],S,rfl,hid (by simp),by simp,IE.out,UB.out⟩
 case round=>
  obtain⟨l,rest,rfl,Sv,hlr,lA,dB⟩:=hrel;have jP:=hid lA;have dR:=hid dB;clear lA dB;have zW:=cC rest;have hrz:(aA rest).data.toList=rest:=aC _;have Bd:(aA rest).size=rest.length:=aD _;by_cases lZ:rest=[]
  ·have he:(aA rest).toList.isEmpty=true:=by rw[zW,lZ];rfl
   have HF:Hid (pN S=l):=hid (by rw[Sv.out,lZ,Du,List.append_nil]);clear zW lZ hrz Bd;go_wp2_with fail;refine(eU _ _ _ l jP.out dR.out.size).mono ?_;rintro e w4 ⟨rfl,cG⟩;have fG:=hid (dR.out.trans cG);clear cG;go_wp2_with fail;go_ret;exact⟨by rw[HF.out];rfl,fG.out⟩
  ·have he:(aA rest).toList.isEmpty=false:=by rw[zW];cases rest with|nil=>exact absurd rfl lZ|cons a b=>rfl
   have hr0:0 < rest.length:=by rcases Nat.eq_zero_or_pos rest.length with h|h;exact absurd (List.length_eq_zero_iff.1 h) lZ;exact h
   clear zW;rcases CR 38 rest with⟨hi,wU⟩|⟨a,r,hr,ha,hi⟩
   ·have hd:pN rest=rest:=by have:=N8 rest [] wU;rwa[List.append_nil,Du,List.append_nil] at this
    have HF:Hid (pN S=l++rest):=hid (by rw[Sv.out,hd]);have HI:=hid (fun w=>Bu (aA rest) 38 38 rfl (-1) (by rw[hrz];exact hi) w);have HRZ:=hid hrz;have HW:=hid (fun w1 (h:rY w1 w.heap.size w.heap.size l) (hb:w.heap.size≤w1.heap.size)=>cO w1 w.heap.size w.heap.size l (aA rest) h (by rw[Bd];omega) hb);rw[HRZ.out] at HW;clear hrz Bd hi hd wU lZ;go_wp2_with fail;refine(HI.out _).mono ?_;rintro e w' ⟨rfl,rfl⟩;go_wp2_with fail;refine(HW.out _ jP.out dR.out.size).mono ?_;rintro e w4 ⟨rfl,IW,cG⟩;have CS:=hid IW;have fG:=hid (dR.out.trans cG);clear IW cG;go_wp2_with fail;refine(eU _ _ _ (l++rest) CS.out fG.out.size).mono ?_;rintro e w5 ⟨rfl,aM⟩;have iJ:=hid (fG.out.trans aM);clear aM;go_wp2_with fail;go_ret;exact⟨by rw[HF.out];rfl,iJ.out⟩
   ·have hal:a.length+(r.length+1)=rest.length:=by rw[hr];simp
    have hd:pN rest=a++pN (38::r):=by rw[hr];exact N8 a _ ha
    have HI:=hid (fun w=>Bu (aA rest) 38 38 rfl (a.length:Int) (by rw[hrz];exact hi) w);have uX:(aA rest).extract 0 a.length=aA a:=by rw[yE,hrz,hr];simp
    have B8:(aA rest).extract a.length (aA rest).size=aA (38::r):=by rw[yE,hrz,Bd,hr];simp
    have hx3:∀n,n≤r.length→(aA rest).extract (a.length+(n+1)) (aA rest).size=aA (r.drop n):=fun n hn=>by rw[yE,hrz,Bd,hr];rw[show a.length+(n+1)=a.length+1+n by omega,←List.drop_drop,←List.drop_drop,List.drop_left];simp;rw[List.take_of_length_le (by simp;omega)]
    have HX1:=hid uX;have HX2:=hid B8;have HX3:=hid hx3;have HWA:=hid (fun w1 (h:rY w1 w.heap.size w.heap.size l) (hb:w.heap.size≤w1.heap.size)=>cO w1 w.heap.size w.heap.size l (aA a) h (by rw[aD];omega) hb);rw[aC] at HWA;have apY:a.length≤(aA rest).size:=by rw[Bd];omega
    have Kg:=hid Bd;have HD:=hid hd;have akP:(aA (38::r)).size≤1000000000:=by rw[aD];simp;omega
    clear hx3 hrz hi hd lZ ha hr Bd;cases hrf:zL r with
    |none=>
     have HR:=hid (fun w=>MN (aA (38::r)) r hrf (aC _) akP w);have HF:Hid (pN S=(l++a++[38])++pN r):=hid (by rw[Sv.out,HD.out,K1 hrf];simp);have HWT:=hid (fun w1 (h:rY w1 w.heap.size w.heap.size (l++a)) (hb:w.heap.size≤w1.heap.size)=>cO w1 w.heap.size w.heap.size (l++a) (aA [38]) h (by rw[aD];simp;omega) hb);rw[aC] at HWT;obtain⟨z,hz⟩:∃z,z=a.length+1:=⟨_,rfl⟩;have hWz:IntKind.i64.wrap ((a.length:Int)+1)=(z:Int):=by rw[IntWalk.i64_in _ (by omega)];omega
     have hx4:(aA rest).extract z (aA rest).size=aA r:=by have:=HX3.out 0 (by omega);rw[hz];simpa using this
     have rX:z≤(aA rest).size:=by rw[Kg.out];omega
     have HX4:=hid hx4;have HWZ:=hid hWz;have HZ:=hid hz;clear hrf hz hx4 hWz;go_wp2_with fail;refine(HI.out _).mono ?_;rintro e w' ⟨rfl,rfl⟩;go_wp2_with fail;refine(HWA.out _ jP.out dR.out.size).mono ?_;rintro e w4 ⟨rfl,IW,cG⟩;have CS:=hid IW;have fG:=hid (dR.out.trans cG);clear IW cG uX;go_wp2_with fail;refine(HR.out _).mono ?_;rintro e w5 ⟨rfl,aM⟩;have IX:=hid (rP CS.out aM);have iJ:=aR fG aM;clear aM;go_wp2_with fail;refine(HWT.out _ IX.out iJ.out.size).mono ?_;rintro e w6 ⟨rfl,Zi,fH⟩;have ahN:=hid Zi;have Eg:=hid (iJ.out.trans fH);have hWz:=HWZ.out;have hx4:=HX4.out;clear Zi fH B8;go_wp2_with fail;go_roundw;case rel=>exact⟨l++a++[38],r,rfl,HF,by simp;omega,ahN.out,Eg.out⟩
     case measure=>have:=Kg.out;simp only[aD] at*;omega
    |some p=>
     obtain⟨t,n⟩:=p;have HR:=hid (fun w=>IV (aA (38::r)) r t n hrf (aC _) akP w);have HF:Hid (pN S=(l++a++t)++pN (r.drop n)):=hid (by rw[Sv.out,HD.out,K0 hrf];simp);obtain⟨ht1,IY,ht3⟩:=N9 hrf;have HWT:=hid (fun w1 (h:rY w1 w.heap.size w.heap.size (l++a)) (hb:w.heap.size≤w1.heap.size)=>cO w1 w.heap.size w.heap.size (l++a) (aA t) h (by rw[aD];simp;omega) hb);rw[aC] at HWT;obtain⟨z,hz⟩:∃z,z=a.length+(n+1):=⟨_,rfl⟩;have hWz:IntKind.i64.wrap ((a.length:Int)+((n:Int)+1))=(z:Int):=by rw[IntWalk.i64_in _ (by omega)];omega
     have hx4:(aA rest).extract z (aA rest).size=aA (r.drop n):=by have:=HX3.out n (by omega);rw[hz];exact this
     have rX:z≤(aA rest).size:=by rw[Kg.out];omega
     have HX4:=hid hx4;have HWZ:=hid hWz;have HZ:=hid hz;clear hrf hz hx4 hWz;go_wp2_with fail;refine(HI.out _).mono ?_;rintro e w' ⟨rfl,rfl⟩;go_wp2_with fail;refine(HWA.out _ jP.out dR.out.size).mono ?_;rintro e w4 ⟨rfl,IW,cG⟩;have CS:=hid IW;have fG:=hid (dR.out.trans cG);clear IW cG uX;go_wp2_with fail;refine(HR.out _).mono ?_;rintro e w5 ⟨rfl,aM⟩;have IX:=hid (rP CS.out aM);have iJ:=aR fG aM;clear aM;go_wp2_with fail;refine(HWT.out _ IX.out iJ.out.size).mono ?_;rintro e w6 ⟨rfl,Zi,fH⟩;have ahN:=hid Zi;have Eg:=hid (iJ.out.trans fH);have hWz:=HWZ.out;have hx4:=HX4.out;clear Zi fH B8;go_wp2_with fail;go_roundw;case rel=>exact⟨l++a++t,r.drop n,rfl,HF,by simp;omega,ahN.out,Eg.out⟩
     case measure=>have:=Kg.out;have CL:(List.drop n r).length=r.length - n:=List.length_drop;simp only[aD] at*;omega
theorem mO:(⟨#[58]⟩:ByteArray)=aA [58]:=rfl
def EY (numbers:Bool) (acc:List Nat) (rest:List UInt8):Option (List Nat):=
 match Al numbers (fZ 58 rest) with
 |none=>none
 |some r=>if 8 < acc.length+r.length then none else some (acc++r)
theorem SH {s:List UInt8} (numbers:Bool) (h:s≠[]):lH s numbers=EY numbers [] s:=by
 unfold lH EY;rw[if_neg h];cases Al numbers (fZ 58 s) with
 |none=>rfl
 |some r=>simp
theorem MO {q:UInt8} {a r:List UInt8} (h:q∉a):bM q (a++q::r)=(a,r,true):=by obtain⟨h1,h2⟩:=BV (r:=r) h;unfold bM;rw[if_pos (by simp),h1,h2];rfl
theorem IZ {q:UInt8} {s:List UInt8} (h:q∉s):bM q s=(s,[],false):=by unfold bM;rw[if_neg (by simpa using h)]
theorem Zj {q:UInt8} {s:List UInt8} (h:(bM q s).2.2=true):∃a r,s=a++q::r∧q∉a:=by
 by_cases hq:q∈s;·exact vF hq
 ·rw[IZ hq] at h;cases h
theorem MP {q:UInt8} {s:List UInt8} (h:(bM q s).2.2=false):q∉s:=by intro hq;obtain⟨a,r,rfl,ha⟩:=vF hq;rw[MO ha] at h;cases h
theorem I0 (numbers:Bool) (p:List UInt8) {r:List (List UInt8)} (h:r≠[]):Al numbers (p::r)=match kD p,Al numbers r with
 |some x,some l=>some (x::l)
 |_,_=>none:=by
 cases r with
 |nil=>exact absurd rfl h
 |cons q r=>rfl
theorem Wm {numbers:Bool} {acc:List Nat} {s:List UInt8} (h:(bM 58 s).2.2=true) (Zk:acc.length≤8):EY numbers acc s=match kD (bM 58 s).1 with
 |none=>none
 |some x=>if 8 < acc.length+1 then none else EY numbers (acc++[x]) (bM 58 s).2.1:=by
 obtain⟨a,r,rfl,ha⟩:=Zj h;rw[MO ha];unfold EY;rw[Hb ha,I0 numbers a (BM 58 r)];cases kD a with
 |none=>rfl
 |some x=>
  cases Al numbers (fZ 58 r) with
  |none=>simp
  |some l=>
   simp only[List.length_cons,List.length_append,List.length_nil];by_cases h8:8 < acc.length+1;·rw[if_pos (by omega),if_pos h8]
   ·rw[if_neg h8];by_cases h9:8 < acc.length+(l.length+1);·rw[if_pos h9,if_pos (by omega)]
    ·rw[if_neg h9,if_neg (by omega)];simp
theorem Wn {acc:List Nat} {s:List UInt8} (h:(bM 58 s).2.2=false) (hd:s.contains 46=true):EY true acc s=match kE s with
 |none=>none
 |some x=>if 8 < acc.length+2 then none else some (acc++[x.1,x.2]):=by
 unfold EY;rw[Bo (MP h)];have e:Al true [s]=(kE s).map fun x=>[x.1,x.2]:=by show(if(true&&s.contains 46)=true then _ else _)=_;rw[hd];rfl
 rw[e];cases kE s<;>rfl
theorem Wo {numbers:Bool} {acc:List Nat} {s:List UInt8} (h:(bM 58 s).2.2=false) (hd:(numbers&&s.contains 46)=false):EY numbers acc s=match kD s with
 |none=>none
 |some x=>if 8 < acc.length+1 then none else some (acc++[x]):=by
 unfold EY;rw[Bo (MP h)];have e:Al numbers [s]=(kD s).map fun x=>[x]:=by show(if(numbers&&s.contains 46)=true then _ else _)=_;rw[hd];rfl
 rw[e];cases kD s<;>rfl
theorem Ps (s:List UInt8) (q:UInt8):decide (0≤Lib.indexByte s q)=s.contains q:=by
 rcases CR q s with⟨h1,h2⟩|⟨a,r,rfl,_,h2⟩
 ·rw[h1];have:s.contains q=false:=by rw[Bool.eq_false_iff];intro hc;exact h2 q (by simpa using hc) rfl
  rw[this];rfl
 ·rw[h2];have:(a++q::r).contains q=true:=by simp
  rw[this];simp
theorem EZ {s:List UInt8} {n:Nat} (h:kD s=some n):n < 65536:=by
 unfold kD at h;split at h;·cases h
 ·cases hp:zD 0 s with
  |none=>rw[hp] at h;cases h
  |some m=>rw[hp] at h;cases h;exact Nat.mod_lt _ (by decide)
def eY (n:Nat):Value:= .int .u16 (n:Int)
def rQ (w:World) (base:Nat) (v:Value) (l:List Nat):Prop:=w.ownsRow base 29 1 v l.length (l.map eY)
theorem Pt:(Tryz.prog.info? 29).map (fun i=>(i.zero,i.size,i.bytes))=some (some (.int .u16 0),1,2):=by kernel_rfl
theorem rQ.nil (w:World) (base:Nat):rQ w base (.slice none 0 0) []:=World.ownsRow_nil _ _ _ _
theorem rQ.below {w w':World} {base:Nat} {v:Value} {l:List Nat} (h:rQ w base v l) (hb:Below w.heap.size w w'):rQ w' base v l:=by
 obtain⟨h1,h2⟩:=h;refine⟨h1,?_⟩;rcases h2 with h2|⟨g,cap,cur,hv,hg,hh,r⟩;·exact .inl h2
 ·exact .inr ⟨g,cap,cur,hv,hg,by rw[hb.block g (Array.getElem?_eq_some_iff.1 hh).1];exact hh,r⟩
theorem rQ.mono {w:World} {base base':Nat} {v:Value} {l:List Nat} (h:rQ w base v l) (hb:base'≤base):rQ w base' v l:=by
 obtain⟨h1,h2⟩:=h;refine⟨h1,?_⟩;rcases h2 with h2|⟨g,cap,cur,hv,hg,r⟩;·exact .inl h2
 ·exact .inr ⟨g,cap,cur,hv,Nat.le_trans hb hg,r⟩
theorem rQ.len {w:World} {base:Nat} {v:Value} {l:List Nat} (h:rQ w base v l):∃a c,v= .slice a l.length c:=by
 obtain⟨h1,h2⟩:=h;rcases h2 with⟨rfl,h3⟩|⟨g,cap,cur,rfl,_⟩;·exact⟨none,0,by rw[h3]⟩
 ·exact⟨_,cap,rfl⟩
theorem rQ.cells {w:World} {base:Nat} {v:Value} {l:List Nat} (h:rQ w base v l):(v= .slice none 0 0∧l=[])∨∃g c,v= .slice (some ⟨g,0,none⟩) l.length c∧base≤g∧l.length≤c∧∀j (hj:j < l.length),w.cell? ⟨g,j,none⟩=some (.int .u16 (l[j]:Int)):=by
 have h':=h;obtain⟨h1,h2⟩:=h;rcases h2 with⟨rfl,h3⟩|⟨g,cap,cur,rfl,hg,hh,hc,hm,hs,ht⟩;·exact .inl ⟨rfl,List.length_eq_zero_iff.1 h3⟩
 ·refine .inr ⟨g,cap,rfl,hg,hc,fun j hj=>?_⟩;have:=World.ownsRow.cells h' (g:=g) rfl j (.int .u16 (l[j]:Int)) (by rw[List.getElem?_map,List.getElem?_eq_getElem hj];rfl);rw[CH] at this;exact this
theorem jC {ops:Array Oper} {rest:List Oper} {o:Oper} {a:Act} {Q:Exit→Act→World→Prop} (w:World) (base:Nat) (v:Value) (l:List Nat) (c:Nat) {n:Int} (hn:n=(c:Int))
 (tK:o.guard=none) (s x:Operand) (ho:o.op= .call {callee:= .builtin .append,args:= #[s,x],argTypes:= #[219,219]})
 (hs:a.eval s=v) (bE:rQ w base v l) (hx:a.eval x= .slice (some ⟨w.heap.size,0,none⟩) 1 1) (hlen:l.length≤4000000000) (kX:base≤w.heap.size)
 (h:∀v' w',rQ w' base v' (l++[c])→Below base w w'→wpList Tryz.prog ops Q rest (a.put o.dst v') w'):wpList Tryz.prog ops Q (o::rest) a (w.alloc (.cells #[.int .u16 n] 29)):=by
 subst hn;obtain⟨i0,hi,vO,rX,qL⟩:=info_parts Pt;refine wpList_append_own _ tK s x 219 ho base 29 i0 (.int .u16 0) 1 2 Tryz.underlying219 hi vO rX qL rfl (by decide) v l.length (l.map eY) hs (World.ownsRow.alloc bE _) ⟨w.heap.size,0,none⟩ 1 1 [eY c] hx rfl
  ?_ ?_ (by unfold maxLen;omega) (by omega) (by simp;omega) fun v' w' h1 h2 _=>?_
 ·intro j u hj
  match j,hj with
  |0,hj=>simp at hj;subst hj;exact World.cell?_alloc_mark w #[eY c] 29 (0,0) 0
 ·intro u hu;simp at hu;subst hu;rfl
 ·refine h v' w' ?_ ?_;·unfold rQ;simpa using h1
  ·have eN:Below base w (w.alloc (.cells #[.int .u16 (c:Int)] 29)):=(Below.refl _ _).alloc kX _;exact eN.grown h2 (by simp;omega) (fun k hk=>(World.ownsRow.lt bE k hk).1)
theorem vH {ops:Array Oper} {rest:List Oper} {o:Oper} {a:Act} {Q:Exit→Act→World→Prop} (w:World) (base:Nat) (v:Value) (l:List Nat) (c d:Nat) {n m:Int} (hn:n=(c:Int)) (hm:m=(d:Int))
 (tK:o.guard=none) (s x:Operand) (ho:o.op= .call {callee:= .builtin .append,args:= #[s,x],argTypes:= #[219,219]})
 (hs:a.eval s=v) (bE:rQ w base v l) (hx:a.eval x= .slice (some ⟨w.heap.size,0,none⟩) 2 2) (hlen:l.length≤4000000000) (kX:base≤w.heap.size)
 (h:∀v' w',rQ w' base v' (l++[c,d])→Below base w w'→wpList Tryz.prog ops Q rest (a.put o.dst v') w'):wpList Tryz.prog ops Q (o::rest) a (w.alloc (.cells #[.int .u16 n,.int .u16 m] 29)):=by
 subst hn hm;obtain⟨i0,hi,vO,rX,qL⟩:=info_parts Pt;refine wpList_append_own _ tK s x 219 ho base 29 i0 (.int .u16 0) 1 2 Tryz.underlying219 hi vO rX qL rfl (by decide) v l.length (l.map eY) hs (World.ownsRow.alloc bE _) ⟨w.heap.size,0,none⟩ 2 2 [eY c,eY d] hx rfl
  ?_ ?_ (by unfold maxLen;omega) (by omega) (by simp;omega) fun v' w' h1 h2 _=>?_
 ·intro j u hj
  match j,hj with
  |0,hj=>simp at hj;subst hj;exact World.cell?_alloc_mark w #[eY c,eY d] 29 (0,0) 0
  |1,hj=>simp at hj;subst hj;exact World.cell?_alloc_mark w #[eY c,eY d] 29 (0,0) 1
 ·intro u hu;simp at hu;rcases hu with rfl|rfl<;>rfl
 ·refine h v' w' ?_ ?_;·unfold rQ;simpa using h1
  ·have eN:Below base w (w.alloc (.cells #[.int .u16 (c:Int),.int .u16 (d:Int)] 29)):=(Below.refl _ _).alloc kX _;exact eN.grown h2 (by simp;omega) (fun k hk=>(World.ownsRow.lt bE k hk).1)
def iD (o:Option (List Nat)) (w:World) (e:Ending) (w':World):Prop:=
 (match o with
 |none=>e=EU
 |some l=>∃v,e= .returned v∧rQ w' w.heap.size v l)∧Below w.heap.size w w'
def tru:Value→Nat
 | .bool true=>1
 |_=>0
theorem iD.die {o:Option (List Nat)} {w w':World} (h:o=none) (hb:Below w.heap.size w w'):iD o w EU w':=by subst h;exact⟨rfl,hb⟩
theorem iD.val {o:Option (List Nat)} {l:List Nat} {v:Value} {w w':World} (h:o=some l) (hv:rQ w' w.heap.size v l) (hb:Below w.heap.size w w'):iD o w (.returned v) w':=by subst h;exact⟨⟨v,rfl,hv⟩,hb⟩
theorem qT (s:List UInt8) (numbers:Bool) (hs:s.length≤1000000000) (w:World) (hW:Laid w):Calls Tryz.prog 215 #[.string (aA s),.bool numbers] w fun e w'=>iD (lH s numbers) w e w':=by
 by_cases h0:s=[]
 ·have HF:Hid (lH s numbers=some []):=hid (by unfold lH;rw[if_pos h0]);have he:(aA s).toList.isEmpty=true:=by rw[h0,cC];rfl
  clear h0;go_enter Tryz.func215,Tryz.ntmps215;go_wp2_with fail;go_ret;exact iD.val HF.out (rQ.nil _ _) (Below.refl _ _)
 have he:=mN h0;have HR:=hid (SH numbers h0);have HW:=hid hW;clear hW h0;go_enter Tryz.func215,Tryz.ntmps215;go_wp2_with fail;go_loopw [0,5,6] (fun x a i wr=>∃(t:List UInt8) (acc:List Nat) (more:Bool),x= .string (aA t)∧rQ wr w.heap.size a acc∧i= .bool more∧t.length≤1000000000∧acc.length≤8∧Hid (lH s numbers=if more then EY numbers acc t else some acc)∧Hid (Below w.heap.size w wr)) (fun x _ i _=>(eB x).length+tru i);case atStart=>exact⟨s,[],true,rfl,rQ.nil _ _,rfl,hs,by simp,hid HR.out,hid (Below.refl _ _)⟩
 case round=>
  obtain⟨t,acc,more,rfl,bE,rfl,ht,Zk,hF,dR⟩:=hrel;have hwz:=dR.out.size;cases more with
  |false=>have HF:=hid (show lH s numbers=some acc from hF.out);clear hF;go_wp2_with fail;go_ret;exact iD.val HF.out bE dR.out
  |true=>
   have aT:lH s numbers=EY numbers acc t:=hF.out;have HC:=hid (fun W hW=>oH t 58 (by omega) W hW);have oO:=uN 58 t;have hln:=sO 58 t;have hcf:(bM 58 t).2.2=false→(bM 58 t).1=t∧(bM 58 t).2.1=[]:=by intro h;rw[IZ (MP h)];exact⟨rfl,rfl⟩
   have k1:= @Wm numbers acc t;have k2:= @Wn acc t;have k3:= @Wo numbers acc t;generalize bM 58 t=z at*;obtain⟨p,r,more⟩:=z;simp only at HC oO hcf hln k1 k2 k3;obtain⟨VT,aH⟩:=oO;have HP:=hid (fun W=>Wd p (by omega) W);have hxc:=Ps p 46;have HX:=hid (fun W=>Bu (aA p) 46 46 rfl (Lib.indexByte p 46) (by rw[aC]) W);have HFo:=hid (fun W hW=>GI p (by omega) W hW);clear hF;cases more with
   |true=>
    have k:=k1 rfl Zk;clear k1 k2 k3 hcf HX HFo;rw[k] at aT;simp only[if_true] at hln;clear k;cases hpn:kD p with
    |none=>rw[hpn] at HP aT;have HF:Hid (lH s numbers=none):=hid aT;simp only[Y6,EU] at HP;clear aT hpn;go_wp2_with fail;rw[mO];refine(HC.out _ (HW.out.step dR.out)).mono ?_;rintro e w2 ⟨rfl,dE⟩;have cK:=bU dR dE hwz;clear dE;go_wp2_with fail;refine(HP.out _).mono ?_;rintro e w' ⟨rfl,rfl⟩;go_wp2_with fail;exact⟨rfl,iD.die HF.out cK.out⟩
    |some n=>
     have Ed:=EZ hpn;rw[hpn] at HP aT;simp only[Y6] at HP aT;clear hpn;have MQ:lH s numbers=if 8 < (acc++[n]).length then none else EY numbers (acc++[n]) r:=by rw[aT];simp
     have hl9:(acc++[n]).length≤9:=by simp;omega
     clear aT;go_wp2_with fail;rw[mO];refine(HC.out _ (HW.out.step dR.out)).mono ?_;rintro e w2 ⟨rfl,dE⟩;have cK:=bU dR dE hwz;have oV:=bE.below dE;have qL:=dE.size;clear dE bE;go_wp2_with fail;refine(HP.out _).mono ?_;rintro e w' ⟨rfl,rfl⟩;have JS:w.heap.size≤w2.heap.size:=by omega
     by_cases h8:8 < (acc++[n]).length;·have HF:Hid (lH s numbers=none):=hid (by rw[MQ,if_pos h8]);clear MQ;go_wp2_with (at_builtin;refine jC w2 w.heap.size _ acc n rfl rfl _ _ rfl rfl oV rfl (by omega) JS ?_;intro v1 w5 dJ eN;obtain⟨A,c,Dy⟩:=dJ.len;generalize acc++[n]=CT at*;subst Dy);have iJ:=hid (cK.out.trans (eN.mono (Nat.le_refl _)));exact⟨rfl,iD.die HF.out iJ.out⟩
     ·have HF:Hid (lH s numbers=EY numbers (acc++[n]) r):=hid (by rw[MQ,if_neg h8]);clear MQ;go_wp2_with (at_builtin;refine jC w2 w.heap.size _ acc n rfl rfl _ _ rfl rfl oV rfl (by omega) JS ?_;intro v1 w5 dJ eN;obtain⟨A,c,Dy⟩:=dJ.len;generalize acc++[n]=CT at*;subst Dy);have iJ:=hid (cK.out.trans (eN.mono (Nat.le_refl _)));have h8':CT.length≤8:=by omega
      go_roundw;case rel=>exact⟨r,CT,true,rfl,dJ,rfl,by omega,h8',hid HF.out,iJ⟩
      case measure=>simp[eB,aC,tru];omega
   |false=>
    obtain⟨hpt,rfl⟩:=hcf rfl;subst hpt;have k2':=k2 rfl;have k3':=k3 rfl;generalize Lib.indexByte p 46=ix at*;generalize hbq:p.contains 46=b at*;clear k1 k2 k3 hcf hln aH VT hbq;have dO:(numbers=true∧b=true)∨(numbers&&b)=false:=by cases numbers<;>cases b<;>simp
    rcases dO with⟨rfl,rfl⟩|hnb
    ·have k:=k2' rfl;rw[k] at aT;clear k k2' k3' HP;cases hfn:kE p with
     |none=>rw[hfn] at HFo aT;have HF:Hid (lH s true=none):=hid aT;simp only[Y9,EU] at HFo;clear aT hfn;go_wp2_with fail;rw[mO];refine(HC.out _ (HW.out.step dR.out)).mono ?_;rintro e w2 ⟨rfl,dE⟩;have cK:=bU dR dE hwz;clear dE;go_wp2_with fail;refine(HX.out _).mono ?_;rintro e w' ⟨rfl,rfl⟩;go_wp2_with fail;refine(HFo.out _ (HW.out.step cK.out)).mono ?_;rintro e w3 ⟨rfl,cF⟩;have vD:=aR cK cF;clear cF;go_wp2_with fail;exact⟨rfl,iD.die HF.out vD.out⟩
     |some n=>
      obtain⟨x,y⟩:=n;rw[hfn] at HFo aT;simp only[Y9] at HFo aT;clear hfn;have MQ:lH s true=if 8 < (acc++[x,y]).length then none else some (acc++[x,y]):=by rw[aT];simp
      have hl9:(acc++[x,y]).length≤10:=by simp;omega
      clear aT;go_wp2_with fail;rw[mO];refine(HC.out _ (HW.out.step dR.out)).mono ?_;rintro e w2 ⟨rfl,dE⟩;have cK:=bU dR dE hwz;have oV:=bE.below dE;clear dE bE;go_wp2_with fail;refine(HX.out _).mono ?_;rintro e w' ⟨rfl,rfl⟩;go_wp2_with fail;refine(HFo.out _ (HW.out.step cK.out)).mono ?_;rintro e w3 ⟨rfl,cF⟩;have vD:=aR cK cF;have FX:=oV.below cF;have hw3:w.heap.size≤w3.heap.size:=vD.out.size;clear cF oV;by_cases h8:8 < (acc++[x,y]).length;·have HF:Hid (lH s true=none):=hid (by rw[MQ,if_pos h8]);clear MQ;go_wp2_with (at_builtin;refine vH w3 w.heap.size _ acc x y rfl rfl rfl _ _ rfl rfl FX rfl (by omega) hw3 ?_;intro v1 w5 dJ eN;obtain⟨A,c,Dy⟩:=dJ.len;generalize acc++[x,y]=CT at*;subst Dy);have iJ:=hid (vD.out.trans (eN.mono (Nat.le_refl _)));exact⟨rfl,iD.die HF.out iJ.out⟩
      ·have HF:Hid (lH s true=some (acc++[x,y])):=hid (by rw[MQ,if_neg h8]);clear MQ;go_wp2_with (at_builtin;refine vH w3 w.heap.size _ acc x y rfl rfl rfl _ _ rfl rfl FX rfl (by omega) hw3 ?_;intro v1 w5 dJ eN;obtain⟨A,c,Dy⟩:=dJ.len;generalize acc++[x,y]=CT at*;subst Dy);have iJ:=hid (vD.out.trans (eN.mono (Nat.le_refl _)));have h8':CT.length≤8:=by omega
       go_roundw;case rel=>exact⟨[],CT,false,rfl,dJ,rfl,by simp,h8',hid HF.out,iJ⟩
       case measure=>simp[eB,aC,tru]
    ·have k:=k3' hnb;rw[k] at aT;clear k k2' k3' HFo;cases hpn:kD p with
     |none=>
      rw[hpn] at HP aT;have HF:Hid (lH s numbers=none):=hid aT;simp only[Y6,EU] at HP;clear aT hpn;cases numbers with
      |false=>go_wp2_with fail;rw[mO];refine(HC.out _ (HW.out.step dR.out)).mono ?_;rintro e w2 ⟨rfl,dE⟩;have cK:=bU dR dE hwz;clear dE;go_wp2_with fail;refine(HP.out _).mono ?_;rintro e w' ⟨rfl,rfl⟩;go_wp2_with fail;exact⟨rfl,iD.die HF.out cK.out⟩
      |true=>
       obtain rfl:b=false:=by simpa using hnb
       go_wp2_with fail;rw[mO];refine(HC.out _ (HW.out.step dR.out)).mono ?_;rintro e w2 ⟨rfl,dE⟩;have cK:=bU dR dE hwz;clear dE;go_wp2_with fail;refine(HX.out _).mono ?_;rintro e w' ⟨rfl,rfl⟩;go_wp2_with fail;refine(HP.out _).mono ?_;rintro e w' ⟨rfl,rfl⟩;go_wp2_with fail;exact⟨rfl,iD.die HF.out cK.out⟩
     |some n=>
      rw[hpn] at HP aT;simp only[Y6] at HP aT;clear hpn;have MQ:lH s numbers=if 8 < (acc++[n]).length then none else some (acc++[n]):=by rw[aT];simp
      have hl9:(acc++[n]).length≤9:=by simp;omega
      clear aT;cases numbers with
      |false=>
       go_wp2_with fail;rw[mO];refine(HC.out _ (HW.out.step dR.out)).mono ?_;rintro e w2 ⟨rfl,dE⟩;have cK:=bU dR dE hwz;have oV:=bE.below dE;have JS:w.heap.size≤w2.heap.size:=cK.out.size;clear dE bE;go_wp2_with fail;refine(HP.out _).mono ?_;rintro e w' ⟨rfl,rfl⟩;by_cases h8:8 < (acc++[n]).length;·have HF:Hid (lH s false=none):=hid (by rw[MQ,if_pos h8]);clear MQ;go_wp2_with (at_builtin;refine jC w2 w.heap.size _ acc n rfl rfl _ _ rfl rfl oV rfl (by omega) JS ?_;intro v1 w5 dJ eN;obtain⟨A,c,Dy⟩:=dJ.len;generalize acc++[n]=CT at*;subst Dy);have iJ:=hid (cK.out.trans (eN.mono (Nat.le_refl _)));exact⟨rfl,iD.die HF.out iJ.out⟩
       ·have HF:Hid (lH s false=some (acc++[n])):=hid (by rw[MQ,if_neg h8]);clear MQ;go_wp2_with (at_builtin;refine jC w2 w.heap.size _ acc n rfl rfl _ _ rfl rfl oV rfl (by omega) JS ?_;intro v1 w5 dJ eN;obtain⟨A,c,Dy⟩:=dJ.len;generalize acc++[n]=CT at*;subst Dy);have iJ:=hid (cK.out.trans (eN.mono (Nat.le_refl _)));have h8':CT.length≤8:=by omega
        go_roundw;case rel=>exact⟨[],CT,false,rfl,dJ,rfl,by simp,h8',hid HF.out,iJ⟩
        case measure=>simp[eB,aC,tru]
      |true=>
       obtain rfl:b=false:=by simpa using hnb
       go_wp2_with fail;rw[mO];refine(HC.out _ (HW.out.step dR.out)).mono ?_;rintro e w2 ⟨rfl,dE⟩;have cK:=bU dR dE hwz;have oV:=bE.below dE;have JS:w.heap.size≤w2.heap.size:=cK.out.size;clear dE bE;go_wp2_with fail;refine(HX.out _).mono ?_;rintro e w' ⟨rfl,rfl⟩;go_wp2_with fail;refine(HP.out _).mono ?_;rintro e w' ⟨rfl,rfl⟩;by_cases h8:8 < (acc++[n]).length;·have HF:Hid (lH s true=none):=hid (by rw[MQ,if_pos h8]);clear MQ;go_wp2_with (at_builtin;refine jC w2 w.heap.size _ acc n rfl rfl _ _ rfl rfl oV rfl (by omega) JS ?_;intro v1 w5 dJ eN;obtain⟨A,c,Dy⟩:=dJ.len;generalize acc++[n]=CT at*;subst Dy);have iJ:=hid (cK.out.trans (eN.mono (Nat.le_refl _)));exact⟨rfl,iD.die HF.out iJ.out⟩
       ·have HF:Hid (lH s true=some (acc++[n])):=hid (by rw[MQ,if_neg h8]);clear MQ;go_wp2_with (at_builtin;refine jC w2 w.heap.size _ acc n rfl rfl _ _ rfl rfl oV rfl (by omega) JS ?_;intro v1 w5 dJ eN;obtain⟨A,c,Dy⟩:=dJ.len;generalize acc++[n]=CT at*;subst Dy);have iJ:=hid (cK.out.trans (eN.mono (Nat.le_refl _)));have h8':CT.length≤8:=by omega
        go_roundw;case rel=>exact⟨[],CT,false,rfl,dJ,rfl,by simp,h8',hid HF.out,iJ⟩
        case measure=>simp[eB,aC,tru]
end Go.Proofs.YtmgmclkplepapaaGreatDoor
