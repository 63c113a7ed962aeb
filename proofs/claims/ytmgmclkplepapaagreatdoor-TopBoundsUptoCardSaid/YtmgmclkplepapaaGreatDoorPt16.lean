/- Part of the proof of TopBoundsUptoCardSaid. Conditions: none beyond the statement. -/
import Derived.Shelf.Spec.SlicesInsertGrow
import Derived.Test.YtmgmclkplepapaaGreatDoorPt8
set_option linter.all false
set_option maxRecDepth 100000
set_option maxHeartbeats 64000000
namespace Go.Proofs.YtmgmclkplepapaaGreatDoor
open Go.RowKit
def agM:Go.Shelf.Ren:=⟨fun|21=>242|27=>250|28=>251|35=>254|39=>255|n=>n,fun|0=>0|3=>3|4=>4|22=>221|n=>n,fun|n=>n⟩
theorem G5:Go.Proofs.Lays2.n21 Tryz.prog agM:={
 mixed:=by kernel_rfl
 f21:=Tryz.func242.trans (congrArg some (by kernel_rfl))
 f27:=Tryz.func250.trans (congrArg some (by kernel_rfl))
 f28:=Tryz.func251.trans (congrArg some (by kernel_rfl))
 f35:=Tryz.func254.trans (congrArg some (by kernel_rfl))
 f39:=Tryz.func255.trans (congrArg some (by kernel_rfl))
 t0:=Tryz.underlying0
 a0:=Tryz.isAgg0
 z0:=Tryz.sizeOf0
 v0:=Tryz.zeroValue0
 t3:=Tryz.underlying3
 a3:=Tryz.isAgg3
 z3:=Tryz.sizeOf3
 v3:=Tryz.zeroValue3
 t4:=Tryz.underlying4
 a4:=Tryz.isAgg4
 z4:=Tryz.sizeOf4
 v4:=Tryz.zeroValue4
 t22:=Tryz.underlying221
 a22:=Tryz.isAgg221
 z22:=Tryz.sizeOf221
 v22:=Tryz.zeroValue221
 i3:=by kernel_rfl}
theorem Kh {w:World} {g k:Nat} {c:Array Value} {e:TypeId} {f:Nat×Nat} (h:w.heap[g]? =some (.cells c e f)) (v:Value):
 (w.setCell ⟨g,k,none⟩ v).heap[g]? =some (.cells (c.setIfInBounds k v) e f):=by
 simp[World.setCell,Array.getElem?_modify,h]
theorem oG {g:Nat} {e:TypeId} {f:Nat×Nat}:∀(vs:List Value) (o:Nat) (w:World) (c:Array Value),w.heap[g]? =some (.cells c e f)→
 ∃c',(w.setCells g o vs).heap[g]? =some (.cells c' e f)∧c'.size=c.size∧(∀j,j < o→c'[j]? =c[j]?)∧(∀j,o≤j→j < o+vs.length→j < c.size→c'[j]? =vs[j - o]?)∧(∀j,o+vs.length≤j→c'[j]? =c[j]?):=by
 intro vs;induction vs with
 |nil=>intro o w c h;exact⟨c,h,rfl,fun _ _=>rfl,fun j h1 h2=>by simp at h2;omega,fun _ _=>rfl⟩
 |cons v r ih=>
  intro o w c h;obtain⟨c',h1,h2,h3,h4,h5⟩:=ih (o+1) (w.setCell ⟨g,o,none⟩ v) _ (Kh h v);refine⟨c',h1,by simpa using h2,fun j hj=>?_,fun j XU Q6 hj3=>?_,fun j hj=>?_⟩;·rw[h3 j (by omega)];simp[Array.getElem?_setIfInBounds];omega
  ·by_cases he:j=o;·subst he;rw[h3 j (by omega)];simp[Array.getElem?_setIfInBounds,hj3]
   ·rw[h4 j (by omega) (by simp at Q6;omega) (by simpa using hj3)];rw[show j - o=(j - (o+1))+1 by omega,List.getElem?_cons_succ]
  ·rw[h5 j (by simp at hj;omega)];simp[Array.getElem?_setIfInBounds];simp at hj;omega
theorem below_setCells {B g:Nat}:∀(vs:List Value) (o:Nat) (a w:World),Below B a w→B≤g→Below B a (w.setCells g o vs):=by
 intro vs;induction vs with
 |nil=>intro o a w h _;exact h
 |cons v r ih=>intro o a w h hg;exact ih (o+1) a _ (h.setCell (p:=⟨g,o,none⟩) hg v) hg
theorem G6 {w:World} {base g cap:Nat} {cur:Array Value} {l:List Nat} (hb:base≤g) (hh:w.heap[g]? =some (.cells cur 3 (0,0))) (hn:l.length≤cap) (hm:cap≤maxLen) (hs:cur.size=cap)
 (hc:∀j (h:j < l.length),cur[j]? =some (pF l[j])):pB w base (.slice (some ⟨g,0,none⟩) l.length cap) l:=by
 refine⟨by simp,.inr ⟨g,cap,cur,rfl,hb,hh,hn,hm,by omega,?_⟩⟩;apply List.ext_getElem?;intro j;rw[Nat.mul_one];by_cases hj:j < l.length;·rw[List.getElem?_take_of_lt hj,Array.getElem?_toList,hc j hj];simp[hj]
 ·rw[List.getElem?_eq_none (by simp;omega),List.getElem?_eq_none (by simp;omega)]
theorem R1 {w:World} {base g cap:Nat} {l:List Nat} (h:pB w base (.slice (some ⟨g,0,none⟩) l.length cap) l):∃cur,base≤g∧w.heap[g]? =some (.cells cur 3 (0,0))∧l.length≤cap∧cap≤maxLen∧cur.size=cap∧∀j (h:j < l.length),cur[j]? =some (pF l[j]):=by
 obtain⟨h1,h2⟩:=h;rcases h2 with⟨h2,_⟩|⟨g',akC,cur,hv,hb,hh,hn,hm,hs,ht⟩;·cases h2
 ·injection hv with e1 e2 e3;injection e1 with e1;injection e1 with e4;subst e3 e4;refine⟨cur,hb,hh,hn,hm,by omega,fun j hj=>?_⟩;have:=congrArg (fun x:List Value=>x[j]?) ht;simp only[Nat.mul_one] at this;rw[List.getElem?_take_of_lt hj,Array.getElem?_toList] at this;rw[this];simp[hj]
theorem Iz {l:List Nat} {i x:Nat} (hi:i≤l.length) (j:Nat) (hj:j < (l.take i++x::l.drop i).length):
 (l.take i++x::l.drop i)[j]=if j < i then l.getD j 0 else if j=i then x else l.getD (j - 1) 0:=by
 have hl:(l.take i).length=i:=by rw[List.length_take];omega
 have hlen:(l.take i++x::l.drop i).length=l.length+1:=by simp;omega
 by_cases h1:j < i;·rw[if_pos h1,List.getElem_append_left (by omega)];simp[List.getElem_take,List.getD_eq_getElem?_getD,List.getElem?_eq_getElem (show j < l.length by omega)]
 ·rw[if_neg h1];by_cases h2:j=i;·subst h2;rw[if_pos rfl,List.getElem_append_right (by omega)];simp[hl]
  ·rw[if_neg h2,List.getElem_append_right (by omega)];obtain⟨q,hq⟩:∃q,j - (l.take i).length=q+1:=⟨j - i - 1,by omega⟩;simp only[hq,List.getElem_cons_succ,List.getElem_drop];have:i+q=j - 1:=by omega
   simp[this,List.getD_eq_getElem?_getD,List.getElem?_eq_getElem (show j - 1 < l.length by omega)]
theorem Ul {l:List Nat}:∀v∈l.map pF,v.oneCell'=true:=by intro v hv;obtain⟨n,_,rfl⟩:=List.mem_map.1 hv;rfl
theorem abZ {l:List Nat} {j:Nat} {v:Value} (h:(l.map pF)[j]? =some v):∃hj:j < l.length,v=pF l[j]:=by
 rw[List.getElem?_map] at h;by_cases hj:j < l.length;·rw[List.getElem?_eq_getElem hj] at h;simp at h;exact⟨hj,h.symm⟩
 ·rw[List.getElem?_eq_none (by omega)] at h;simp at h
theorem EO (n:Nat):(Builtin.zeroCells (Value.int .i64 0).cells n).size=n:=by rw[size_zeroCells];simp[Value.cells]
theorem IA (w:World) (o:Obj):(w.alloc o).heap[w.heap.size]? =some o:=by show(w.heap.push o)[w.heap.size]? =_;simp
theorem heap_drew (w:World):w.drew.heap=w.heap:=rfl
theorem DD (base:Option Addr) (n c vb:Nat) (cs:List Value) (x:Value) (w:World) (hnc:n≤c) (yD:c < n+1) (vC:(n+1)*8≤140737488355328)
 (oO:cs.length=n) (YD:base=none→n=0) (AB:∀a,base=some a→∀j v,cs[j]? =some v→w.cell? (a.add j)=some v) (R2:∀j v,[x][j]? =some v→w.cell? ⟨vb,0+j,none⟩=some v) (h1v:∀v∈[x],v.oneCell'=true):
 Calls Tryz.prog 242 #[.slice base n c,.int .i64 n,.slice (some ⟨vb,0,none⟩) 1 1] w fun e w'=>
  e= .returned (.slice (some ⟨w.heap.size,0,none⟩) (n+1) (grownCap w (n+1) c 3))∧
  w'=w.drew.alloc (.cells ((cs++[x]).toArray++Builtin.zeroCells (Value.int .i64 0).cells (grownCap w (n+1) c 3 - (n+1))) 3):=
 Any2.slices_Insert_int_end_grow G5 base n c vb 0 1 1 cs [x] w (by omega) hnc yD vC oO rfl YD AB R2 h1v
theorem Mv (b n c vb:Nat) (x:Value) (w:World) (yD:n+1≤c) (agN:c≤9223372036854775807)
 (G2:∀j,j < 1→(w.cell? ⟨b,0+n+j,none⟩).isSome=true) (hfz:∀j,j < 1→w.frozen? ⟨b,0+n+j,none⟩=false)
 (R2:∀j v,[x][j]? =some v→w.cell? ⟨vb,0+j,none⟩=some v) (h1v:∀v∈[x],v.oneCell'=true):
 Calls Tryz.prog 242 #[.slice (some ⟨b,0,none⟩) n c,.int .i64 n,.slice (some ⟨vb,0,none⟩) 1 1] w fun e w'=>
  e= .returned (.slice (some ⟨b,0,none⟩) (n+1) c)∧w'=w.setCells b (0+n) [x]:=
 Any2.slices_Insert_int_end_room G5 b 0 n c vb 0 1 1 [x] w (by omega) yD agN rfl G2 hfz R2 h1v
theorem VU (b n c i vb:Nat) (cs:List Value) (x:Value) (w:World) (hi:i < n) (yD:n+1≤c) (agN:c≤9223372036854775807) (hvb:vb≠b) (oO:cs.length=n)
 (AB:∀j v,cs[j]? =some v→w.cell? ⟨b,0+j,none⟩=some v) (G2:∀j,j < n+1→(w.cell? ⟨b,0+j,none⟩).isSome=true) (hfz:∀j,j < n+1→w.frozen? ⟨b,0+j,none⟩=false)
 (R2:∀j v,[x][j]? =some v→w.cell? ⟨vb,0+j,none⟩=some v) (h1c:∀v∈cs,v.oneCell'=true) (h1v:∀v∈[x],v.oneCell'=true)
 (tA tB:TypeId) (kA kB:Nat) (hsa:w.shape? vb=some (tA,kA)) (hsb:w.shape? b=some (tB,kB)) (hkB:kB≠0) (hfa:w.frozen? ⟨vb,0,none⟩=false) (hfe:w.frozen? ⟨vb,kA,none⟩=false):
 Calls Tryz.prog 242 #[.slice (some ⟨b,0,none⟩) n c,.int .i64 i,.slice (some ⟨vb,0,none⟩) 1 1] w fun e w'=>
  e= .returned (.slice (some ⟨b,0,none⟩) (n+1) c)∧w'=(w.drew.setCells b (0+(i+1)) (cs.drop i)).setCells b (0+i) [x]:=
 Any2.slices_Insert_int_shift G5 b 0 n c i vb 0 1 1 cs [x] w hi (by omega) yD agN hvb oO rfl AB G2 hfz R2 h1c h1v tA tB kA kB hsa hsb hkB hfa hfe
theorem YE (b n c i vb:Nat) (cs:List Value) (x:Value) (w:World) (hi:i < n) (hnc:n≤c) (yD:c < n+1) (vC:(n+1)*8≤140737488355328) (oO:cs.length=n)
 (AB:∀j v,cs[j]? =some v→w.cell? ⟨b,0+j,none⟩=some v) (R2:∀j v,[x][j]? =some v→w.cell? ⟨vb,0+j,none⟩=some v) (h1c:∀v∈cs,v.oneCell'=true) (h1v:∀v∈[x],v.oneCell'=true):
 Calls Tryz.prog 242 #[.slice (some ⟨b,0,none⟩) n c,.int .i64 i,.slice (some ⟨vb,0,none⟩) 1 1] w fun e w'=>
  e= .returned (.slice (some ⟨w.heap.size,0,none⟩) (n+1) (grownCap w (n+1) c 3))∧
  w'=(((w.alloc (.cells ((cs.take i).toArray++Builtin.zeroCells (Value.int .i64 0).cells (n+1 - i)++Builtin.zeroCells (Value.int .i64 0).cells (grownCap w (n+1) c 3 - (n+1))) 3)).drew.setCells w.heap.size i [x]).drew).setCells w.heap.size (i+1) (cs.drop i):=
 Any2.slices_Insert_int_grow G5 b 0 n c i vb 0 1 1 cs [x] w hi (by omega) hnc yD vC oO rfl AB R2 h1c h1v
theorem R3 (w0:World) (base i x:Nat) (v:Value) (l:List Nat) (hv:pB w0 base v l) (hb:base≤w0.heap.size) (hi:i≤l.length) (hl:l.length≤1000000):
 Calls Tryz.prog 242 #[v,.int .i64 (i:Int),.slice (some ⟨w0.heap.size,0,none⟩) 1 1] (w0.alloc (.cells #[.int .i64 (x:Int)] 3)) fun e w'=>∃v',e= .returned v'∧pB w' base v' (l.take i++x::l.drop i)∧Below base w0 w':=by
 have hlen:(l.take i++x::l.drop i).length=l.length+1:=by simp;omega
 have eN:Below base w0 (w0.alloc (.cells #[.int .i64 (x:Int)] 3)):=(Below.refl _ _).alloc hb _;have R2:∀j v,([pF x]:List Value)[j]? =some v→(w0.alloc (.cells #[.int .i64 (x:Int)] 3)).cell? ⟨w0.heap.size,0+j,none⟩=some v:=by
  intro j u hj
  match j,hj with
  |0,hj=>simp at hj;subst hj;exact World.cell?_alloc_mark w0 #[pF x] 3 (0,0) 0
 have uX:∀v∈([pF x]:List Value),v.oneCell'=true:=by intro v h;simp at h;subst h;rfl
 have afI:=fun acA uY (h:acA≤maxLen)=>grownCap_le_maxLen (w0.alloc (.cells #[.int .i64 (x:Int)] 3)) acA uY 3 h;have afJ:=fun acA uY=>grownCap_ge (w0.alloc (.cells #[.int .i64 (x:Int)] 3)) acA uY 3;have anF:(w0.alloc (.cells #[.int .i64 (x:Int)] 3)).heap.size=w0.heap.size+1:=by simp
 have uU:(w0.alloc (.cells #[.int .i64 (x:Int)] 3)).heap[w0.heap.size]? =some (.cells #[.int .i64 (x:Int)] 3):=IA _ _;have hold:∀k,k < w0.heap.size→(w0.alloc (.cells #[.int .i64 (x:Int)] 3)).heap[k]? =w0.heap[k]? :=fun k hk=>Below.heap_alloc _ _ _ hk;generalize w0.alloc (.cells #[.int .i64 (x:Int)] 3)=w1 at*;have uW:∀(n c:Nat) (cs:List Value),cs.length=n+1→n≤c→c < n+1→n≤1000000→(l.take i++x::l.drop i).length=n+1→(∀j (h:j < (l.take i++x::l.drop i).length),cs[j]? =some (pF (l.take i++x::l.drop i)[j]))→
  pB (w1.drew.alloc (.cells (cs.toArray++Builtin.zeroCells (Value.int .i64 0).cells (grownCap w1 (n+1) c 3 - (n+1))) 3)) base (.slice (some ⟨w1.heap.size,0,none⟩) (n+1) (grownCap w1 (n+1) c 3)) (l.take i++x::l.drop i):=by
  intro n c cs AB h1 h2 h3 h4 h5;have g1:=afJ (n+1) c;have g2:=afI (n+1) c (by unfold maxLen;omega);rw[←h4];refine G6 (show base≤w1.heap.size by omega) (IA w1.drew _) (by rw[h4];exact g1) (by rw[h4];exact g2) ?_ ?_;·rw[Array.size_append,EO,List.size_toArray,AB,h4];omega
  ·intro j hj;rw[Array.getElem?_append_left (by rw[List.size_toArray];omega),List.getElem?_toArray,h5 j hj]
 rcases hv.read.len with⟨A,C,Ef,_⟩;by_cases YD:A=none
 ·have hl0:l=[]∧C=0:=by
   rcases hv.2 with⟨h1,h2⟩|⟨g,cap,cur,h1,_⟩;·rw[Ef] at h1;injection h1 with _ h3 h4;exact⟨List.length_eq_zero_iff.1 h3,h4⟩
   ·rw[Ef,YD] at h1;injection h1 with h3;cases h3
  obtain⟨rfl,rfl⟩:=hl0;subst YD Ef;have hi0:i=0:=by simpa using hi
  subst hi0;refine(DD none 0 0 w0.heap.size [] (pF x) w1 (by omega) (by omega) (by omega) rfl (fun _=>rfl) (fun a h=>by cases h) R2 uX).mono ?_;rintro e w' ⟨rfl,rfl⟩;exact⟨_,rfl,uW 0 0 [pF x] rfl (by omega) (by omega) (by omega) rfl (fun j hj=>by
   have:j=0:=by simpa using hj
   subst this;rfl),(eN.drew).alloc (by rw[heap_drew];omega) _⟩
 ·obtain⟨g,rfl⟩:∃g,A=some ⟨g,0,none⟩:=by
   rcases hv.2 with⟨h1,h2⟩|⟨g,cap,cur,h1,_⟩;·rw[Ef] at h1;injection h1 with h3;exact absurd h3 YD
   ·rw[Ef] at h1;injection h1 with h3;exact⟨g,h3⟩
  subst Ef;obtain⟨cur,hbg,hh,hn,hm,hs,hc⟩:=R1 hv;have hgl:g < w0.heap.size:=(Array.getElem?_eq_some_iff.1 hh).1;have hh1:w1.heap[g]? =some (.cells cur 3 (0,0)):=by rw[hold g hgl];exact hh
  have aW:∀k,w1.cell? ⟨g,k,none⟩=cur[k]? :=fun k=>by simp[World.cell?,hh1]
  have hfz:∀k,w1.frozen? ⟨g,k,none⟩=false:=fun k=>by simp[World.frozen?,hh1]
  have AB:∀j u,(l.map pF)[j]? =some u→w1.cell? ⟨g,0+j,none⟩=some u:=by intro j u hu;obtain⟨hj,rfl⟩:=abZ hu;rw[Nat.zero_add,aW,hc j hj]
  unfold maxLen at hm;by_cases hie:i=l.length
  ·subst hie;have hL:l.take l.length++x::l.drop l.length=l++[x]:=by simp
   by_cases yD:l.length+1≤C
   ·refine(Mv g l.length C w0.heap.size (pF x) w1 yD (by omega) (fun j hj=>?_) (fun j hj=>hfz _) R2 uX).mono ?_;·rw[aW];rw[Array.getElem?_eq_getElem (show 0+l.length+j < cur.size by omega)];rfl
    ·rintro e w' ⟨rfl,rfl⟩;obtain⟨c',k1,k2,k3,k4,k5⟩:=oG [pF x] (0+l.length) w1 cur hh1;refine⟨_,rfl,?_,below_setCells _ _ _ _ eN hbg⟩;have:=G6 (l:=l.take l.length++x::l.drop l.length) hbg k1 (by rw[hlen];exact yD) (by unfold maxLen;omega) (by rw[k2,hs]) (fun j hj=>by
      rw[Iz (Nat.le_refl _)];by_cases h1:j < l.length;·rw[if_pos h1,k3 j (by omega),hc j h1];simp[List.getD_eq_getElem?_getD,h1]
      ·have h2:j=l.length:=by omega
       subst h2;rw[if_neg h1,if_pos rfl,k4 l.length (by omega) (by simp) (by omega)];simp)
     rwa[hlen] at this
   ·refine(DD (some ⟨g,0,none⟩) l.length C w0.heap.size (l.map pF) (pF x) w1 hn (by omega) (by omega) (by simp) (fun h=>by cases h) (fun a ha j u hu=>by
     injection ha with ha;subst ha;rw[CH];have:=AB j u hu;rwa[Nat.zero_add] at this) R2 uX).mono ?_
    rintro e w' ⟨rfl,rfl⟩;refine⟨_,rfl,uW l.length C _ (by simp) hn (by omega) hl hlen (fun j hj=>?_),(eN.drew).alloc (by rw[heap_drew];omega) _⟩;simp only[hL];rw[←List.map_singleton,←List.map_append,List.getElem?_map,List.getElem?_eq_getElem (by simp;omega)];rfl
  ·have Um:i < l.length:=by omega
   by_cases yD:l.length+1≤C
   ·refine(VU g l.length C i w0.heap.size (l.map pF) (pF x) w1 Um yD (by omega) (by omega) (by simp) AB (fun j hj=>?_) (fun j hj=>hfz _) R2 Ul uX 3 3 1 C
     (by simp[World.shape?,uU]) (by simp[World.shape?,hh1,hs]) (by omega) (by simp[World.frozen?,uU]) (by simp[World.frozen?,uU])).mono ?_
    ·rw[aW];rw[Array.getElem?_eq_getElem (show 0+j < cur.size by omega)];rfl
    ·rintro e w' ⟨rfl,rfl⟩;obtain⟨c',k1,k2,k3,k4,k5⟩:=oG ((l.map pF).drop i) (0+(i+1)) w1.drew cur hh1;obtain⟨c2,m1,m2,m3,m4,m5⟩:=oG [pF x] (0+i) _ c' k1;refine⟨_,rfl,?_,below_setCells _ _ _ _ (below_setCells _ _ _ _ eN.drew hbg) hbg⟩;have:=G6 (l:=l.take i++x::l.drop i) hbg m1 (by rw[hlen];exact yD) (by unfold maxLen;omega) (by rw[m2,k2,hs]) (fun j hj=>by
      rw[Iz hi];by_cases h1:j < i;·rw[if_pos h1,m3 j (by omega),k3 j (by omega),hc j (by omega)];simp[List.getD_eq_getElem?_getD,show j < l.length by omega]
      ·rw[if_neg h1];by_cases h2:j=i;·subst h2;rw[if_pos rfl,m4 j (by omega) (by simp) (by omega)];simp
       ·rw[if_neg h2,m5 j (by simp;omega),k4 j (by omega) (by simp;omega) (by omega)];rw[List.getElem?_drop,show i+(j - (0+(i+1)))=j - 1 by omega,List.getElem?_map];simp[List.getD_eq_getElem?_getD,show j - 1 < l.length by omega])
     rwa[hlen] at this
   ·refine(YE g l.length C i w0.heap.size (l.map pF) (pF x) w1 Um hn (by omega) (by omega) (by simp) AB R2 Ul uX).mono ?_;rintro e w' ⟨rfl,rfl⟩;have g1:=afJ (l.length+1) C;have g2:=afI (l.length+1) C (by unfold maxLen;omega);generalize grownCap w1 (l.length+1) C 3=cap at*;obtain⟨C0,hC0⟩:∃C0,C0=(((l.map pF).take i).toArray++Builtin.zeroCells (Value.int .i64 0).cells (l.length+1 - i)++Builtin.zeroCells (Value.int .i64 0).cells (cap - (l.length+1))):=⟨_,rfl⟩;have anG:C0.size=cap:=by rw[hC0,Array.size_append,Array.size_append,EO,EO,List.size_toArray,List.length_take,List.length_map];omega
    have hc0:∀j,j < i→C0[j]? =(l.map pF)[j]? :=by
     intro j hj;have h0:j < ((l.map pF).take i).toArray.size:=by simp;omega
     rw[hC0,Array.append_assoc,Array.getElem?_append_left h0,List.getElem?_toArray,List.getElem?_take_of_lt hj]
    rw[←hC0];obtain⟨c',k1,k2,k3,k4,k5⟩:=oG [pF x] i (w1.alloc (.cells C0 3)).drew C0 (IA w1 _);obtain⟨c2,m1,m2,m3,m4,m5⟩:=oG ((l.map pF).drop i) (i+1) (((w1.alloc (.cells C0 3)).drew.setCells w1.heap.size i [pF x]).drew) c' k1;refine⟨_,rfl,?_,below_setCells _ _ _ _ (below_setCells _ _ _ _ (eN.alloc (by omega) _).drew (by omega)).drew (by omega)⟩;have:=G6 (l:=l.take i++x::l.drop i) (show base≤w1.heap.size by omega) m1 (by rw[hlen];exact g1) g2 (by rw[m2,k2,anG]) (fun j hj=>by
     rw[Iz hi];by_cases h1:j < i;·rw[if_pos h1,m3 j (by omega),k3 j (by omega),hc0 j h1,List.getElem?_map];simp[List.getD_eq_getElem?_getD,show j < l.length by omega]
     ·rw[if_neg h1];by_cases h2:j=i;·subst h2;rw[if_pos rfl,m3 j (by omega),k4 j (by omega) (by simp) (by omega)];simp
      ·rw[if_neg h2,m4 j (by omega) (by simp;omega) (by omega)];rw[List.getElem?_drop,show i+(j - (i+1))=j - 1 by omega,List.getElem?_map];simp[List.getD_eq_getElem?_getD,show j - 1 < l.length by omega])
    rwa[hlen] at this
end Go.Proofs.YtmgmclkplepapaaGreatDoor
