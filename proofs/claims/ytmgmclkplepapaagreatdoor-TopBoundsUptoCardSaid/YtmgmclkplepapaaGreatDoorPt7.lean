/- Part of the proof of TopBoundsUptoCardSaid. Conditions: none beyond the statement. -/
import Derived.Test.YtmgmclkplepapaaGreatDoorChecked
import Derived.Test.YtmgmclkplepapaaGreatDoorPt5
set_option linter.all false
set_option maxRecDepth 100000
set_option maxHeartbeats 64000000
namespace Go.Proofs.YtmgmclkplepapaaGreatDoor
open Go.RowKit
def mY (c:UInt8):Bool:=decide (65≤(c.toNat:Int)∧(c.toNat:Int)≤90∨97≤(c.toNat:Int)∧(c.toNat:Int)≤122)
theorem zI (c:UInt8) (w:World):
 Calls Tryz.prog 91 #[.int .u8 (c.toNat:Int)] w fun e w'=>e= .returned (.bool (mY c))∧w=w':=by
 have bC:=c.toNat_lt;have hl:Hid (mY c=decide (65≤(c.toNat:Int)∧(c.toNat:Int)≤90∨97≤(c.toNat:Int)∧(c.toNat:Int)≤122)):=hid rfl;go_enter Tryz.func91,Tryz.ntmps91;go_wp2;all_goals go_ret
 all_goals refine⟨?_,rfl⟩
 all_goals(rw[hl.out];simp;first|omega|(rw[Bool.eq_iff_iff];simp;omega))
theorem nU {k:IntKind} {a b:Int} (h:a=b):Ending.returned (.int k a)= .returned (.int k b):=by rw[h]
theorem aZ {a b:Bool} (h:a=b):Ending.returned (.bool a)= .returned (.bool b):=by rw[h]
def Ic (c:UInt8):Int:=
 if 48≤(c.toNat:Int)∧(c.toNat:Int)≤57 then(c.toNat:Int) - 48
 else if 97≤(c.toNat:Int)∧(c.toNat:Int)≤122 then(c.toNat:Int) - 97+10
 else if 65≤(c.toNat:Int)∧(c.toNat:Int)≤90 then(c.toNat:Int) - 65+10
 else -1
def digit (c:UInt8) (base:Int):Int:=if base≤Ic c then -1 else Ic c
theorem Yi (c:UInt8): -1≤Ic c∧Ic c≤35:=by
 have:=c.toNat_lt;unfold Ic
 repeat' split
 all_goals omega
theorem oD (c:UInt8) (base:Int) (h:1≤base): -1≤digit c base∧digit c base < base:=by have:=Yi c;unfold digit;split<;>omega
theorem kW (c:UInt8) (base:Int) (h1:1≤base) (h2:base≤36) (w:World):
 Calls Tryz.prog 76 #[.int .u8 (c.toNat:Int),.int .i64 base] w fun e w'=>e= .returned (.int .i64 (digit c base))∧w=w':=by
 have bC:c.toNat < 256:=c.toNat_lt;go_enter Tryz.func76,Tryz.ntmps76;go_wp2;all_goals go_ret
 all_goals refine⟨nU ?_,rfl⟩
 all_goals(unfold digit Ic;(repeat' split)<;>first|omega|rfl)
def iP (c:UInt8):Value:= .int .u8 (c.toNat:Int)
def fC (w:World) (base:Nat) (v:Value) (l:List UInt8):Prop:=w.ownsRow base 5 1 v l.length (l.map iP)
theorem zJ:(Tryz.prog.info? 5).map (fun i=>(i.zero,i.size,i.bytes))=some (some (.int .u8 0),1,1):=by kernel_rfl
theorem fC.nil (w:World) (base:Nat):fC w base (.slice none 0 0) []:=World.ownsRow_nil _ _ _ _
theorem fC.drew {w:World} {base:Nat} {v:Value} {l:List UInt8} (h:fC w base v l):fC w.drew base v l:=h
theorem fC.shape {w:World} {base:Nat} {v:Value} {l:List UInt8} (h:fC w base v l):
 (v= .slice none 0 0∧l=[])∨∃g cap,v= .slice (some ⟨g,0,none⟩) l.length cap∧base≤g∧g < w.heap.size∧∀j (hj:j < l.length),w.cell? ⟨g,j,none⟩=some (.int .u8 (l[j].toNat:Int)):=by
 have h':=h;obtain⟨h1,h2⟩:=h;rcases h2 with⟨rfl,h3⟩|⟨g,cap,cur,rfl,hg,hh,hc,hm,hs,ht⟩;·exact .inl ⟨rfl,List.length_eq_zero_iff.1 h3⟩
 ·refine .inr ⟨g,cap,rfl,hg,(Array.getElem?_eq_some_iff.1 hh).1,fun j hj=>?_⟩;have:=World.ownsRow.cells h' (g:=g) rfl j (.int .u8 (l[j].toNat:Int)) (by rw[List.getElem?_map,List.getElem?_eq_getElem hj];rfl);rw[CH] at this;exact this
theorem fC.len {w:World} {base:Nat} {v:Value} {l:List UInt8} (h:fC w base v l):∃a c,v= .slice a l.length c:=by
 rcases h.shape with⟨rfl,rfl⟩|⟨g,cap,rfl,_⟩;·exact⟨none,0,rfl⟩
 ·exact⟨_,cap,rfl⟩
theorem fC.kept {w w':World} {base:Nat} {v:Value} {l:List UInt8} (h:fC w base v l) (hb:∀g,base≤g→g < w.heap.size→w'.heap[g]? =w.heap[g]?):fC w' base v l:=by
 obtain⟨h1,h2⟩:=h;refine⟨h1,?_⟩;rcases h2 with h2|⟨g,cap,cur,hv,hg,hh,r⟩;·exact .inl h2
 ·exact .inr ⟨g,cap,cur,hv,hg,by rw[hb g hg (Array.getElem?_eq_some_iff.1 hh).1];exact hh,r⟩
theorem fC.below {w w':World} {base:Nat} {v:Value} {l:List UInt8} (h:fC w base v l) (hb:Below w.heap.size w w'):fC w' base v l:=
 h.kept fun g _ hg=>hb.block g hg
theorem fC.mono {w:World} {base base':Nat} {v:Value} {l:List UInt8} (h:fC w base v l) (hb:base'≤base):fC w base' v l:=by
 obtain⟨h1,h2⟩:=h;refine⟨h1,?_⟩;rcases h2 with h2|⟨g,cap,cur,hv,hg,r⟩;·exact .inl h2
 ·exact .inr ⟨g,cap,cur,hv,Nat.le_trans hb hg,r⟩
theorem cJ {ops:Array Oper} {rest:List Oper} {o:Oper} {a:Act} {Q:Exit→Act→World→Prop} (w:World) (base:Nat) (v:Value) (l:List UInt8) (c:UInt8) {n:Int} (hn:n=(c.toNat:Int))
 (tK:o.guard=none) (s x:Operand) (ho:o.op= .call {callee:= .builtin .append,args:= #[s,x],argTypes:= #[25,25]})
 (hs:a.eval s=v) (bE:fC w base v l) (hx:a.eval x= .slice (some ⟨w.heap.size,0,none⟩) 1 1) (hlen:l.length≤4000000000) (kX:base≤w.heap.size)
 (h:∀v' w',fC w' base v' (l++[c])→Below base w w'→wpList Tryz.prog ops Q rest (a.put o.dst v') w'):wpList Tryz.prog ops Q (o::rest) a (w.alloc (.cells #[.int .u8 n] 5)):=by
 subst hn;obtain⟨i0,hi,vO,rX,qL⟩:=info_parts zJ;refine wpList_append_own _ tK s x 25 ho base 5 i0 (.int .u8 0) 1 1 Tryz.underlying25 hi vO rX qL rfl (by decide) v l.length (l.map iP) hs (World.ownsRow.alloc bE _) ⟨w.heap.size,0,none⟩ 1 1 [iP c] hx rfl
  ?_ ?_ (by unfold maxLen;omega) (by omega) (by simp;omega) fun v' w' h1 h2 _=>?_
 ·intro j u hj
  match j,hj with
  |0,hj=>simp at hj;subst hj;exact World.cell?_alloc_mark w #[iP c] 5 (0,0) 0
 ·intro u hu;simp at hu;subst hu;rfl
 ·refine h v' w' ?_ ?_;·unfold fC;simpa using h1
  ·have eN:Below base w (w.alloc (.cells #[.int .u8 (c.toNat:Int)] 5)):=(Below.refl _ _).alloc kX _;exact eN.grown h2 (by simp;omega) (fun k hk=>(World.ownsRow.lt bE k hk).1)
theorem oE {w:World} {base:Nat} {v:Value} {l:List UInt8} (h:fC w base v l):
 (convert 25 9 v).run Tryz.prog w= .ok (.string ⟨l.toArray⟩) w:=by
 rcases h.shape with⟨rfl,rfl⟩|⟨g,cap,rfl,_,_,hc⟩;·rw[run_convert_bytes_string w 25 9 5 none 0 0 Tryz.underlying25 Tryz.underlying5 Tryz.underlying9];kernel_rfl
 ·exact run_convert_bytes_back (P:=Tryz.prog) w 25 9 5 ⟨g,0,none⟩ cap l Tryz.underlying25 Tryz.underlying5 Tryz.underlying9 (fun j hj=>by rw[CH];exact hc j hj)
theorem sizeBuilder:(Tryz.prog.info? 65).map (fun i=>i.size)=some 2:=by kernel_rfl
theorem liesBuilder:liesAt Tryz.prog Tryz.prog.depth 65 (2 / Tryz.prog.cellsOf 65) 0 65 1=true:=by kernel_rfl
theorem infoByte:(Tryz.prog.info? 5).map (fun i=>(i.zero,i.size,i.bytes))=some (some (.int .u8 0),1,1):=by kernel_rfl
theorem qM (b:Nat) (w:World) (h0:w.cell? ⟨b,0,none⟩=some (.pointer (some ⟨b,0,none⟩))):
 Calls Tryz.prog 49 #[.pointer (some ⟨b,0,none⟩)] w fun e w'=>e= .returned (.tuple #[])∧w'=w:=by
 obtain⟨j,hj,_⟩:=Option.map_eq_some_iff.1 sizeBuilder;go_enter Tryz.func49,Tryz.ntmps49;go_wp2;rw[Lib.run_neq_ptr_same w _ Tryz.underlying63 hj];go_wp2
 go_end0
 exact⟨rfl,rfl⟩
theorem pS (b:Nat) (w:World) (h0:w.cell? ⟨b,0,none⟩=some (.pointer none)) (Gp:w.shape? b=some (65,2)) (hfz:w.frozen? ⟨b,0,none⟩=false):
 Calls Tryz.prog 49 #[.pointer (some ⟨b,0,none⟩)] w fun e w'=>e= .returned (.tuple #[])∧w'=w.setCell ⟨b,0,none⟩ (.pointer (some ⟨b,0,none⟩)):=by
 obtain⟨j,hj,Ve⟩:=Option.map_eq_some_iff.1 sizeBuilder;go_enter Tryz.func49,Tryz.ntmps49;go_wp2;rw[Lib.run_to_unsafe w ⟨b,0,none⟩ Tryz.underlying63 Tryz.underlying127 hj (by rw[Ve];decide) Gp (Nat.zero_lt_succ 1)];simp only[Result.andThen];rw[Oper.upon_value];go_wp2;rw[run_callFunc_extern Tryz.func86 (by kernel_rfl) (by kernel_rfl) (by kernel_rfl) (e:=Extern.AbiNoEscape.same) (by kernel_rfl)];rw[Lib.run_noEscape];simp only[Result.andThen];rw[Oper.upon_value];go_wp2;rw[Lib.run_from_unsafe w ⟨b,0,none⟩ Tryz.underlying127 Tryz.underlying63 hj Gp liesBuilder];simp only[Result.andThen];rw[Oper.upon_value];go_wp2
 go_end0
 exact⟨rfl,rfl⟩
theorem qN (B b:Nat) (bs:List Value) (w:World) (h:Lib.IsBuilder 65 5 B b bs w):
 Calls Tryz.prog 49 #[.pointer (some ⟨b,0,none⟩)] w fun e w'=>e= .returned (.tuple #[])∧(Lib.BuilderAt 65 5 B b (.pointer (some ⟨b,0,none⟩)) bs w'∧Below B w w'):=by
 rcases h with h|h;·refine(pS b w h.cell0 h.shape h.frozen0).mono ?_;rintro e w' ⟨rfl,rfl⟩;exact⟨rfl,h.used _,(Below.refl B w).setCell (p:=⟨b,0,none⟩) h.1 _⟩
 ·refine(qM b w h.cell0).mono ?_;rintro e w' ⟨rfl,rfl⟩;exact⟨rfl,h,Below.refl B _⟩
theorem Ds (B b:Nat) (bs:List Value) (c:Int) (w:World) (h:Lib.IsBuilder 65 5 B b bs w) (hlen:bs.length≤4000000000) (Ie:B≤w.heap.size):
 Calls Tryz.prog 23 #[.pointer (some ⟨b,0,none⟩),.int .u8 c] w fun e w'=>e= .returned .nilIface∧(Lib.BuilderAt 65 5 B b (.pointer (some ⟨b,0,none⟩)) (bs++[.int .u8 c]) w'∧Below B w w'):=by
 obtain⟨i0,hi,vO,rX,qL⟩:=info_parts infoByte;go_enter Tryz.func23,Tryz.ntmps23;go_wp2_with (go_at_call 49;refine(qN B b bs _ h).mono ?_);rintro e w1 ⟨rfl,h1,eN⟩;obtain⟨hB,v,Dt,bE,eG⟩:=h1;have c0:w1.cell? ⟨b,0,none⟩=some (.pointer (some ⟨b,0,none⟩)):=by rw[Lib.cell_of_heap Dt];rfl
 have c1:w1.cell? ⟨b,1,none⟩=some v:=by rw[Lib.cell_of_heap Dt];rfl
 go_wp2_with (at_builtin;refine wpList_append_own _ rfl _ _ 25 rfl B 5 i0 (.int .u8 0) 1 1 Tryz.underlying25 hi vO rX qL rfl (by decide) _ _ _ rfl (bE.alloc _) ⟨w1.heap.size,0,none⟩ 1 1 [.int .u8 c] rfl rfl ?c1 ?c2 ?c3 ?c4 ?c5 ?_);case c1=>
  intro j u hj
  match j,hj with
  |0,hj=>simp at hj;subst hj;simp[Addr.add]
 case c2=>intro u hu;simp at hu;subst hu;rfl
 case c3=>unfold maxLen;omega
 case c4=>omega
 case c5=>have:=eN.size;simp;omega
 intro v' w2 A7 uW _;have bC:b < w1.heap.size:=by
  rcases Nat.lt_or_ge b w1.heap.size with h'|h';·exact h'
  ·simp[Array.getElem?_eq_none h'] at Dt
 have dE:w2.heap[b]? =some (.cells #[.pointer (some ⟨b,0,none⟩),v] 65 (0,0)):=by rw[uW.block b (by simp;omega) (fun e=>eG e.symm),Lib.alloc_old w1 _ b bC];exact Dt
 have d0:w2.cell? ⟨b,0,none⟩=some (.pointer (some ⟨b,0,none⟩)):=by rw[Lib.cell_of_heap dE];rfl
 have d1:w2.cell? ⟨b,1,none⟩=some v:=by rw[Lib.cell_of_heap dE];rfl
 have f1:w2.frozen? ⟨b,1,none⟩=false:=Lib.frozen_of_heap dE 1;obtain⟨g,cap,rfl⟩:∃g cap,v'= .slice (some ⟨g,0,none⟩) (bs.length+1) cap:=by
  rcases A7.2 with⟨_,h0⟩|⟨g,cap,cur,hv,_⟩;·omega
  ·exact⟨g,cap,hv⟩
 go_wp2;go_ret;refine⟨rfl,?_,?_⟩;·exact Lib.BuilderAt.put (T:=65) (e:=5) hB dE (bs':=bs++[.int .u8 c]) (by simpa using A7) (by decide)
 ·exact((eN.alloc (by have:=eN.size;omega) _).grown uW (by have:=eN.size;simp;omega) (fun k hk=>(bE.lt k hk).1)).setCell (p:=⟨b,1,none⟩) hB _
def rY (w:World) (B b:Nat) (l:List UInt8):Prop:=Lib.IsBuilder 65 5 B b (Lib.byteCells l) w
theorem pE (l:List UInt8):Lib.byteCells l=l.map iP:=rfl
theorem rZ (l:List UInt8):(Lib.byteCells l).length=l.length:=by simp[pE]
theorem If (l:List UInt8) (c:UInt8):Lib.byteCells (l++[c])=Lib.byteCells l++[.int .u8 (c.toNat:Int)]:=by simp[pE,iP]
theorem rY.fresh (w:World):rY (w.alloc (.cells #[.pointer none,.slice none 0 0] 65)) w.heap.size w.heap.size []:=Lib.fresh_isBuilder _ _ _
theorem iQ (w:World) (B b:Nat) (l:List UInt8) (c:UInt8) {n:Int} (hn:n=(c.toNat:Int)) (h:rY w B b l) (hlen:l.length≤4000000000) (Ie:B≤w.heap.size):
 Calls Tryz.prog 23 #[.pointer (some ⟨b,0,none⟩),.int .u8 n] w fun e w'=>e= .returned .nilIface∧rY w' B b (l++[c])∧Below B w w':=by
 subst hn;refine(Ds B b (Lib.byteCells l) _ w h (by rw[rZ];exact hlen) Ie).mono ?_;rintro e w' ⟨rfl,h1,h2⟩;refine⟨rfl,.inr ?_,h2⟩;rw[If];exact h1
def bT (w:World) (v:Value) (l:List ByteArray):Prop:=
 (v= .slice none 0 0∧l=[])∨
 ∃g off c,v= .slice (some ⟨g,off,none⟩) l.length c∧l.length≤c∧∀j (h:j < l.length),w.cell? ⟨g,off+j,none⟩=some (.string l[j])
def fN (w:World) (base:Nat) (v:Value) (l:List ByteArray):Prop:=w.ownsRow base 9 1 v l.length (l.map Value.string)
theorem Yj:(Tryz.prog.info? 9).map (fun i=>(i.zero,i.size,i.bytes))=some (some (.string ByteArray.empty),1,16):=by kernel_rfl
theorem bT.len {w:World} {v:Value} {l:List ByteArray} (h:bT w v l):∃a c,v= .slice a l.length c∧l.length≤c:=by
 rcases h with⟨rfl,rfl⟩|⟨g,off,c,rfl,hc,_⟩;·exact⟨none,0,rfl,Nat.le_refl _⟩
 ·exact⟨_,c,rfl,hc⟩
theorem bT.below {w w':World} {v:Value} {l:List ByteArray} (h:bT w v l) (hb:Below w.heap.size w w'):bT w' v l:=by
 rcases h with h|⟨g,off,c,hv,hc,aW⟩;·exact .inl h
 ·refine .inr ⟨g,off,c,hv,hc,fun j hj=>?_⟩;have h1:=aW j hj;have hg:g < w.heap.size:=by
   rcases Nat.lt_or_ge g w.heap.size with bC|Ao;·exact bC
   ·simp[World.cell?,Array.getElem?_eq_none Ao] at h1
  exact(hb.cell (p:=⟨g,off+j,none⟩) hg).trans h1
theorem fN.nil (w:World) (base:Nat):fN w base (.slice none 0 0) []:=World.ownsRow_nil _ _ _ _
theorem fN.read {w:World} {base:Nat} {v:Value} {l:List ByteArray} (h:fN w base v l):bT w v l:=by
 have h':=h;obtain⟨h1,h2⟩:=h;rcases h2 with⟨rfl,h3⟩|⟨g,cap,cur,rfl,hg,hh,hc,hm,hs,ht⟩;·exact .inl ⟨rfl,List.length_eq_zero_iff.1 h3⟩
 ·refine .inr ⟨g,0,cap,rfl,hc,fun j hj=>?_⟩;have:=World.ownsRow.cells h' (g:=g) rfl j (.string l[j]) (by rw[List.getElem?_map,List.getElem?_eq_getElem hj];rfl);rw[CH] at this;rw[Nat.zero_add];exact this
theorem fN.below {w w':World} {base:Nat} {v:Value} {l:List ByteArray} (h:fN w base v l) (hb:Below w.heap.size w w'):fN w' base v l:=by
 obtain⟨h1,h2⟩:=h;refine⟨h1,?_⟩;rcases h2 with h2|⟨g,cap,cur,hv,hg,hh,r⟩;·exact .inl h2
 ·exact .inr ⟨g,cap,cur,hv,hg,by rw[hb.block g (Array.getElem?_eq_some_iff.1 hh).1];exact hh,r⟩
theorem fN.mono {w:World} {base base':Nat} {v:Value} {l:List ByteArray} (h:fN w base v l) (hb:base'≤base):fN w base' v l:=by
 obtain⟨h1,h2⟩:=h;refine⟨h1,?_⟩;rcases h2 with h2|⟨g,cap,cur,hv,hg,r⟩;·exact .inl h2
 ·exact .inr ⟨g,cap,cur,hv,Nat.le_trans hb hg,r⟩
theorem bT.take {w:World} {g off n c:Nat} {l:List ByteArray} (h:bT w (.slice (some ⟨g,off,none⟩) l.length c) l) (hn:n≤l.length):bT w (.slice (some ⟨g,off,none⟩) n c) (l.take n):=by
 rcases h with⟨h,_⟩|⟨g',Yk,c',hv,hc,aW⟩;·cases h
 ·injection hv with h1 h2 h3;injection h1 with h1;injection h1 with h4 h5 h6;subst h4 h5 h3;refine .inr ⟨g,off,c,by rw[List.length_take,Nat.min_eq_left hn],by rw[List.length_take];omega,fun j hj=>?_⟩;rw[List.length_take] at hj;rw[aW j (by omega)];simp
theorem EA {w:World} {base:Nat} {v x:Value} {l m:List ByteArray} (ty:TypeId) (bE:fN w base v l) (hx:bT w x m) (hlen:l.length+m.length≤4000000000) (kX:base≤w.heap.size):
 ∃v' w',(Builtin.append_ #[22,22] ty #[v,x]).run Tryz.prog w= .ok v' w'∧fN w' base v' (l++m)∧Below base w w':=by
 obtain⟨i0,hi,vO,rX,qL⟩:=info_parts Yj;rcases hx with⟨rfl,rfl⟩|⟨g,off,c,rfl,hc,aW⟩;·refine⟨v,w,?_,by simpa using bE,Below.refl _ _⟩;exact run_append_owned_none (P:=Tryz.prog) (w:=w) base 22 ty 9 i0 1 Tryz.underlying22 hi v l.length (l.map Value.string) bE
 ·obtain⟨v',w',hr,h2,h3,_⟩:=run_append_own (P:=Tryz.prog) w base 22 ty 9 i0 (.string ByteArray.empty) 1 16 Tryz.underlying22 hi vO rX qL rfl (by decide) v l.length (l.map Value.string) bE
   ⟨g,off,none⟩ m.length c (m.map Value.string) (by simp) (fun j u hu=>by
     rw[List.getElem?_map] at hu
     by_cases hj:j < m.length
     ·rw[List.getElem?_eq_getElem hj] at hu
      simp at hu
      subst hu
      rw[Addr.add_lit]
      exact aW j hj
     ·rw[List.getElem?_eq_none (by omega)] at hu
      simp at hu) (fun u hu=>by
     rw[List.mem_map] at hu
     obtain⟨s,_,rfl⟩:=hu
     rfl) (by unfold maxLen;omega) (by omega) kX
  refine⟨v',w',hr,?_,(Below.refl _ _).grown h3 kX fun k hk=>(World.ownsRow.lt bE k hk).1⟩;unfold fN;simpa using h2
theorem bO {ops:Array Oper} {rest:List Oper} {o:Oper} {a:Act} {Q:Exit→Act→World→Prop} {w:World} {base:Nat} {v x:Value} {l m:List ByteArray} (tK:o.guard=none) (s y:Operand)
 (ho:o.op= .call {callee:= .builtin .append,args:= #[s,y],argTypes:= #[22,22]}) (hs:a.eval s=v) (bE:fN w base v l) (hy:a.eval y=x) (hx:bT w x m)
 (hlen:l.length+m.length≤4000000000) (kX:base≤w.heap.size)
 (h:∀v' w',fN w' base v' (l++m)→Below base w w'→wpList Tryz.prog ops Q rest (a.put o.dst v') w'):wpList Tryz.prog ops Q (o::rest) a w:=by
 refine wpList_plain tK fun K hK=>?_;obtain⟨v',w',hr,h2,h3⟩:=EA o.type bE hx hlen kX;unfold Oper.wp execOp;simp only[ho,resolve,invoke,builtin,Sem.run_bind,Sem.run_pure,Result.andThen_ok,List.map_toArray,List.map_cons,List.map_nil,hs,hy,hr];exact hK _ _ (h v' w' h2 h3)
def aV (s:ByteArray):Bool:=
 s.toList==[102,116,112]||(s.toList==[102,105,108,101]||(s.toList==[104,116,116,112]||(s.toList==[104,116,116,112,115]||(s.toList==[119,115]||s.toList==[119,115,115]))))
theorem jS (s:ByteArray) (w:World):
 Calls Tryz.prog 94 #[.string s] w fun e w'=>e= .returned (.bool (aV s))∧w=w':=by
 go_enter Tryz.func94,Tryz.ntmps94;go_wp2;all_goals go_ret
 all_goals refine⟨aZ ?_,rfl⟩
 all_goals(simp_all [aV,Bool.or_assoc])
def uR (s:ByteArray):Int×Bool:=
 if s.toList==[102,116,112] then(21,true) else if s.toList==[104,116,116,112] then(80,true) else if s.toList==[119,115] then(80,true)
 else if s.toList==[104,116,116,112,115] then(443,true) else if s.toList==[119,115,115] then(443,true) else(0,false)
theorem Rq (s:ByteArray) (w:World):
 Calls Tryz.prog 206 #[.string s] w fun e w'=>e= .returned (.tuple #[.int .i64 (uR s).1,.bool (uR s).2])∧w=w':=by
 go_enter Tryz.func206,Tryz.ntmps206;go_wp2;all_goals go_ret2
 all_goals refine⟨?_,rfl⟩
 all_goals(simp_all [uR])
def iR:List (List UInt8×List UInt8):=[
 ([97,109,112],[38]),
 ([65,77,80],[38]),
 ([108,116],[60]),
 ([76,84],[60]),
 ([103,116],[62]),
 ([71,84],[62]),
 ([113,117,111,116],[34]),
 ([81,85,79,84],[34]),
 ([110,98,115,112],[194,160]),
 ([115,104,121],[194,173]),
 ([110,111,116],[194,172]),
 ([114,101,103],[194,174]),
 ([99,111,112,121],[194,169]),
 ([112,97,114,97],[194,182]),
 ([115,101,99,116],[194,167]),
 ([121,101,110],[194,165]),
 ([100,101,103],[194,176]),
 ([116,105,109,101,115],[195,151]),
 ([101,97,99,117,116,101],[195,169]),
 ([111,117,109,108],[195,182]),
 ([115,122,108,105,103],[195,159])]
def cQ:List (List UInt8×List UInt8):=[
 ([97,112,111,115],[39]),
 ([99,111,108,111,110],[58]),
 ([115,111,108],[47]),
 ([98,115,111,108],[92]),
 ([113,117,101,115,116],[63]),
 ([110,117,109],[35]),
 ([112,101,114,99,110,116],[37]),
 ([99,111,109,109,97,116],[64]),
 ([101,113,117,97,108,115],[61]),
 ([112,108,117,115],[43]),
 ([99,111,109,109,97],[44]),
 ([112,101,114,105,111,100],[46]),
 ([115,101,109,105],[59]),
 ([101,120,99,108],[33]),
 ([100,111,108,108,97,114],[36]),
 ([97,115,116],[42]),
 ([108,111,119,98,97,114],[95]),
 ([103,114,97,118,101],[96]),
 ([72,97,116],[94]),
 ([108,112,97,114],[40]),
 ([114,112,97,114],[41]),
 ([108,115,113,98],[91]),
 ([114,115,113,98],[93]),
 ([108,99,117,98],[123]),
 ([114,99,117,98],[125]),
 ([118,101,114,98,97,114],[124]),
 ([84,97,98],[9]),
 ([78,101,119,76,105,110,101],[10])]
def pM:List (List UInt8×List UInt8):=[
 ([110,111,116,105,110],[226,136,137]),
 ([110,118,108,116],[60,226,131,146]),
 ([110,118,103,116],[62,226,131,146]),
 ([122,119,110,106],[226,128,140]),
 ([122,119,106],[226,128,141]),
 ([90,101,114,111,87,105,100,116,104,83,112,97,99,101],[226,128,139]),
 ([78,111,66,114,101,97,107],[226,129,160]),
 ([102,106,108,105,103],[102,106]),
 ([99,111,112,121,115,114],[226,132,151]),
 ([116,105,109,101,115,98,97,114],[226,168,177])]
def qO:List (List UInt8×List UInt8):=cQ++pM
def aX (T:List (List UInt8×List UInt8)) (n:List UInt8):Option (List UInt8):=(T.find? fun p=>p.1==n).map (·.2)
theorem EB {T:List (List UInt8×List UInt8)} {n t:List UInt8} (h:aX T n=some t):(n,t)∈T:=by
 unfold aX at h;cases hf:T.find? (fun p=>p.1==n) with
 |none=>rw[hf] at h;simp at h
 |some p=>rw[hf] at h;simp at h;have h1:=List.find?_some hf;have h2:=List.mem_of_find?_eq_some hf;simp at h1;obtain⟨a,b⟩:=p;simp at h h1;subst h h1;exact h2
theorem KY (A B:List (List UInt8×List UInt8)) (n:List UInt8):aX (A++B) n=match aX A n with|some t=>some t|none=>aX B n:=by unfold aX;rw[List.find?_append];cases A.find? (fun p=>p.1==n)<;>rfl
def iY (l:List UInt8):List UInt8×Bool:=if l.getLast? =some 59 then(l.dropLast,true) else(l,false)
theorem Mk (l:List UInt8):iY (l++[59])=(l,true):=by simp[iY]
theorem Rr {l:List UInt8} (h:l.getLast?≠some 59):iY l=(l,false):=by simp[iY,h]
def qP (l:List UInt8):Option (List UInt8):=
 match aX iR (iY l).1 with
 |some t=>some t
 |none=>if(iY l).2=true then aX qO (iY l).1 else none
def N6 (c:UInt8):Bool:=(65≤c.toNat&&c.toNat≤90)||(97≤c.toNat&&c.toNat≤122)
def afG (p:List UInt8×List UInt8):Bool:=p.1.all N6&&decide (p.1.length≤14)&&decide (2≤p.1.length)&&decide (p.2.length≤p.1.length)
theorem Vh:(iR++qO).all afG=true:=by decide+kernel
theorem Uf {p:List UInt8×List UInt8} (h:p∈iR++qO):p.1.all N6=true∧p.1.length≤14∧2≤p.1.length∧p.2.length≤p.1.length:=by have:=List.all_eq_true.1 Vh p h;simp only[afG,Bool.and_eq_true,decide_eq_true_eq] at this;exact⟨this.1.1.1,this.1.1.2,this.1.2,this.2⟩
theorem xB (l:List UInt8):(iY l=(l,false)∧l.getLast?≠some 59)∨(∃r,l=r++[59]∧iY l=(r,true)):=by
 by_cases h:l.getLast? =some 59;·right;obtain⟨r,hr⟩:=List.getLast?_eq_some_iff.1 h;exact⟨r,hr,by rw[hr,Mk]⟩
 ·exact .inl ⟨Rr h,h⟩
theorem N7 {l t:List UInt8} (h:qP l=some t):
 ∃r,r.all N6=true∧r.length≤14∧2≤r.length∧t.length≤r.length∧(l=r∨l=r++[59])∧(aX iR r=some t∨aX qO r=some t):=by
 have key:∀r,(aX iR r=some t∨aX qO r=some t)→r.all N6=true∧r.length≤14∧2≤r.length∧t.length≤r.length:=fun r hr=>by
  rcases hr with hr|hr;·exact Uf (p:=(r,t)) (List.mem_append_left _ (EB hr))
  ·exact Uf (p:=(r,t)) (List.mem_append_right _ (EB hr))
 have fin:∀r,(l=r∨l=r++[59])→(aX iR r=some t∨aX qO r=some t)→
  ∃r,r.all N6=true∧r.length≤14∧2≤r.length∧t.length≤r.length∧(l=r∨l=r++[59])∧(aX iR r=some t∨aX qO r=some t):=fun r h1 h2=>by
  obtain⟨a,b,c,d⟩:=key r h2;exact⟨r,a,b,c,d,h1,h2⟩
 unfold qP at h;rcases xB l with⟨hc,_⟩|⟨r,hl,hc⟩
 ·rw[hc] at h;cases hf:aX iR l with
  |some x=>simp[hf] at h;subst h;exact fin l (.inl rfl) (.inl hf)
  |none=>simp[hf] at h
 ·rw[hc] at h;cases hf:aX iR r with
  |some x=>simp[hf] at h;subst h;exact fin r (.inr hl) (.inl hf)
  |none=>simp[hf] at h;exact fin r (.inr hl) (.inr h)
def Yl (n:Int):List UInt8:=(Utf8.encode n).data.toList
def A8:List Int:=[8364,129,8218,402,8222,8230,8224,8225,710,8240,352,8249,338,141,381,143,144,8216,8217,8220,8221,8226,8211,8212,732,8482,353,8250,339,157,382,376]
def tL (n:Int):Int:=if 128≤n∧n≤159 then A8.getD (n - 128).toNat 0 else n
def zK (n:Int):List UInt8:=if n=0 then Yl 65533 else Yl (tL n)
def KZ (c:UInt8):Bool:=N6 c||decide (0≤digit c 10)||c==61
def Ug:List UInt8→Bool
 |[]=>false
 |c::_=>KZ c
def oF (r:List UInt8):Nat→Option (List UInt8×Nat)
 |0=>none
 |n+1=>match qP (r.take (n+1)) with
  |none=>oF r n
  |some t=>if r[n]? ≠some 59∧Ug (r.drop (n+1))=true then none else some (t,n+1)
def FE (r:List UInt8):Option (List UInt8×Nat):=oF r (min 15 r.length)
def fT (base:Int):List UInt8→Nat
 |[]=>0
 |c::r=>if digit c base < 0 then 0 else fT base r+1
def oS (base:Int) (n:Int) (c:UInt8):Int:=min (n*base+digit c base) 1114112
def nL (base:Int) (l:List UInt8):Int:=l.foldl (oS base) 0
def xZ (base:Int) (skip:Nat) (l:List UInt8):Option (List UInt8×Nat):=
 if fT base l=0 then none else some (zK (nL base (l.take (fT base l))),skip+fT base l+(if l[fT base l]? =some 59 then 1 else 0))
def Vi (c:UInt8):Bool:=c==120||c==88
def Gq:List UInt8→Option (List UInt8×Nat)
 |[]=>none
 |c::r=>if Vi c=true then xZ 16 2 r else xZ 10 1 (c::r)
def zL:List UInt8→Option (List UInt8×Nat)
 |[]=>none
 |c::r=>if c=35 then Gq r else FE (c::r)
def pN:List UInt8→List UInt8
 |[]=>[]
 |c::r=>if c=38 then match zL r with
   |some (t,n)=>t++pN (r.drop n)
   |none=>38::pN r
  else c::pN r
termination_by l=>l.length
decreasing_by all_goals(simp only[List.length_cons,List.length_drop];omega)
theorem Du:pN []=[]:=by rw[pN]
theorem Ig {c:UInt8} (r:List UInt8) (h:c≠38):pN (c::r)=c::pN r:=by rw[pN,if_neg h]
theorem K0 {r t:List UInt8} {n:Nat} (h:zL r=some (t,n)):pN (38::r)=t++pN (r.drop n):=by rw[pN,if_pos rfl,h]
theorem K1 {r:List UInt8} (h:zL r=none):pN (38::r)=38::pN r:=by rw[pN,if_pos rfl,h]
theorem N8 (a b:List UInt8) (h:∀c∈a,c≠38):pN (a++b)=a++pN b:=by
 induction a with
 |nil=>rfl
 |cons c r ih=>rw[List.cons_append,Ig _ (h c (by simp)),ih fun x hx=>h x (by simp[hx])];rfl
theorem Ml {r t:List UInt8} {n k:Nat} (h:oF r n=some (t,k)):qP (r.take k)=some t∧0 < k∧k≤n:=by
 induction n with
 |zero=>simp[oF] at h
 |succ n ih=>
  unfold oF at h;cases hn:qP (r.take (n+1)) with
  |none=>simp only[hn] at h;obtain⟨a,b,c⟩:=ih h;exact⟨a,b,by omega⟩
  |some x=>
   simp only[hn] at h;split at h;·simp at h
   ·simp at h;obtain⟨rfl,rfl⟩:=h;exact⟨hn,by omega,Nat.le_refl _⟩
theorem Vj {r t:List UInt8} {k:Nat} (h:FE r=some (t,k)):t.length≤k∧0 < k∧k≤r.length:=by
 obtain⟨h1,h2,h3⟩:=Ml h;obtain⟨x,_,_,_,hx,hl,_⟩:=N7 h1;have e:(r.take k).length=k:=by rw[List.length_take];omega
 refine⟨?_,h2,by omega⟩;rcases hl with hl|hl;·rw[hl] at e;omega
 ·rw[hl] at e;simp at e;omega
theorem K2 (n:Int):(Yl n).length≤4:=by
 unfold Yl Utf8.encode;simp only[]
 repeat' split
 all_goals simp
theorem Vk:∀i:Fin 16,(zK (i.val:Int)).length≤3:=by decide+kernel
theorem Mm (base n:Int) (c:UInt8) (hb:0≤base) (hn:0≤n) (hd:0≤digit c base):0≤oS base n c∧oS base n c≤n*base+digit c base:=by unfold oS;have:=Int.mul_nonneg hn hb;omega
theorem Vl (n:Int):(zK n).length≤4:=by
 unfold zK;split;·exact K2 _
 ·exact K2 _
theorem uM (base:Int):∀l:List UInt8,fT base l≤l.length
 |[]=>Nat.le_refl _
 |c::r=>by
  unfold fT;have:=uM base r;split;·omega
  ·simp;omega
theorem Rs {base:Int} {l:List UInt8} (h:fT base l≠0):∃c r,l=c::r∧0≤digit c base:=by
 cases l with
 |nil=>exact absurd rfl h
 |cons c r=>
  refine⟨c,r,rfl,?_⟩;unfold fT at h;split at h;·exact absurd rfl h
  ·omega
theorem K3 {base:Int} {skip n:Nat} {l t:List UInt8} (hb:1≤base) (dE:base≤16) (hs:1≤skip) (h:xZ base skip l=some (t,n)):t.length≤n+1∧0 < n∧n≤skip+l.length:=by
 unfold xZ at h;split at h;·simp at h
 ·next h0=>
  simp only[Option.some.injEq,Prod.mk.injEq] at h;obtain⟨rfl,rfl⟩:=h;have hd:=uM base l;obtain⟨c,r,hl,hc⟩:=Rs h0;generalize hK:fT base l=k at*;refine⟨?_,by omega,?_⟩
  ·by_cases h1:k=1;·rw[h1,hl];show(zK (oS base 0 c)).length≤_;have hbd:=oD c base hb;have hw:=Mm base 0 c (by omega) (by omega) hc;have:∃i:Fin 16,oS base 0 c=(i.val:Int):=⟨⟨(oS base 0 c).toNat,by omega⟩,by simp;omega⟩;obtain⟨i,hi⟩:=this;rw[hi];have:=Vk i;omega
   ·have:=Vl (nL base (l.take k));omega
  ·split
   ·next hx=>
    have:k < l.length:=by
     rcases Nat.lt_or_ge k l.length with bC|Ao;·exact bC
     ·rw[List.getElem?_eq_none Ao] at hx;simp at hx
    omega
   ·omega
theorem N9 {r t:List UInt8} {n:Nat} (h:zL r=some (t,n)):t.length≤n+1∧0 < n∧n≤r.length:=by
 cases r with
 |nil=>simp[zL] at h
 |cons c q=>
  have e1:zL (c::q)=if c=35 then Gq q else FE (c::q):=rfl
  rw[e1] at h;by_cases hc:c=35
  ·rw[if_pos hc] at h;cases q with
   |nil=>simp[Gq] at h
   |cons d q=>
    have e2:Gq (d::q)=if Vi d=true then xZ 16 2 q else xZ 10 1 (d::q):=rfl
    rw[e2] at h;split at h;·have:=K3 (by omega) (by omega) (by omega) h;simp at this⊢;omega
    ·have:=K3 (by omega) (by omega) (by omega) h;simp at this⊢;omega
  ·rw[if_neg hc] at h;have:=Vj h;omega
theorem abV:∀n (l:List UInt8),l.length≤n→(pN l).length≤l.length:=by
 intro n;induction n with
 |zero=>intro l hl;have:l=[]:=List.length_eq_zero_iff.1 (by omega);subst this;rw[Du];exact Nat.le_refl _
 |succ n ih=>
  intro l hl;cases l with
  |nil=>rw[Du];exact Nat.le_refl _
  |cons c r=>
   simp only[List.length_cons] at hl;by_cases hc:c=38
   ·subst hc;cases hr:zL r with
    |none=>rw[K1 hr];have:=ih r (by omega);simp;omega
    |some p=>obtain⟨t,k⟩:=p;rw[K0 hr];have h1:=N9 hr;have h2:=ih (r.drop k) (by simp;omega);simp at h2⊢;omega
   ·rw[Ig _ hc];have:=ih r (by omega);simp;omega
theorem Oa (l:List UInt8):(pN l).length≤l.length:=abV _ l (Nat.le_refl _)
theorem Vm {c:UInt8} {r:List UInt8} (h:c≠35):zL (c::r)=FE (c::r):=by show(if c=35 then _ else _)=_;rw[if_neg h]
def ajV (base:Int) (n:Int) (l:List UInt8):Int:=l.foldl (fun n c=>n*base+digit c base) n
def okD (base:Int) (l:List UInt8):Prop:=∀c∈l,0≤digit c base
theorem Rt {base:Int} (hb:1≤base):∀(l:List UInt8) (n m:Int),0≤n→m=min n 1114112→okD base l→l.foldl (oS base) m=min (ajV base n l) 1114112:=by
 intro l;induction l with
 |nil=>intro n m _ h _;exact h
 |cons c r ih=>
  intro n m hn hm hd;have hc:=hd c (by simp);have hnb:=Int.mul_nonneg hn (show 0≤base by omega);refine ih (n*base+digit c base) _ (by omega) ?_ fun x hx=>hd x (by simp[hx]);unfold oS;by_cases h:n≤1114112;·rw[hm,Int.min_eq_left h]
  ·have Rp:m=1114112:=by omega
   rw[Rp];have h1:(1114112:Int)*1≤1114112*base:=Int.mul_le_mul_of_nonneg_left hb (by omega);have h2:(1114112:Int)*base≤n*base:=Int.mul_le_mul_of_nonneg_right (by omega) (by omega);omega
theorem Ru {n:Int} (h:Utf8.valid n=false):Utf8.encode n=⟨#[239,191,189]⟩:=by unfold Utf8.encode;rw[h];simp only[Bool.false_eq_true,if_false];decide+kernel
theorem Ym {n:Int} (h:n < 0∨(55296≤n∧n≤57343)∨1114111 < n):Utf8.valid n=false:=by
 unfold Utf8.valid;have e:¬((0≤n∧n < 55296)∨(57344≤n∧n≤1114111)):=by omega
 simpa using e
end Go.Proofs.YtmgmclkplepapaaGreatDoor
