/- Part of the proof of TopBoundsUptoCardSaid. Conditions: none beyond the statement. -/
import Derived.Shelf.Bytes.SlCountOne
import Derived.Lib.SlBuf
import Derived.Test.YtmgmclkplepapaaGreatDoorPt29
set_option linter.all false
set_option maxRecDepth 100000
set_option maxHeartbeats 64000000
namespace Go.Proofs.YtmgmclkplepapaaGreatDoor
open Go.RowKit
theorem eR.DU {w:World} {v:Value} {l:List UInt8} (h:eR w v l):∃p c,v= .slice p l.length c∧l.length≤c∧c≤maxLen∧(p=none→l=[]∧c=0)∧∀a,p=some a→a.spot=none∧∀i,i < l.length→w.cell? (a.add i)=some (.int .u8 ((Lib.numsL l).getD i 0)):=by
 rcases h with⟨rfl,rfl⟩|⟨g,off,c,rfl,hc,hm,aW⟩;·exact⟨none,0,rfl,Nat.le_refl _,Nat.zero_le _,fun _=>⟨rfl,rfl⟩,(fun a h=>by cases h)⟩
 ·refine⟨some ⟨g,off,none⟩,c,rfl,hc,hm,(fun h=>by cases h),fun a h=>?_⟩;obtain rfl:(⟨g,off,none⟩:Addr)=a:=Option.some.inj h;refine⟨rfl,fun i hi=>?_⟩;rw[show(⟨g,off,none⟩:Addr).add i=⟨g,off+i,none⟩ by unfold Addr.add;split<;>simp_all,aW i hi];simp[Lib.numsL,List.getD,hi]
theorem PQ (v:Value) (l:List UInt8) (g d:Nat) (w:World) (h:eR w v l) (h0:w.cell? ⟨g,0,none⟩=some (.int .u8 0)):
 Calls Tryz.prog 119 #[v,.slice (some ⟨g,0,none⟩) 1 d] w fun e w'=>e= .returned (.int .i64 (l.count 0:Nat))∧w=w':=by
 obtain⟨p,c,rfl,hc,hm,hn,ha⟩:=h.DU;have uU:(Extern.BytealgCount.count #[.slice p l.length c,.int .u8 0]).run Tryz.prog w= .ok (.int .i64 (l.count 0:Nat)) w:=by
  cases p with
  |none=>obtain⟨rfl,rfl⟩:=hn rfl;exact Lib.run_countNil w 0 0 0
  |some a=>rw[Lib.run_countAt w a l.length c (Lib.numsL l) (Lib.numsL_length l) (ha a rfl).2 0,Lib.bytesOf_numsL];rfl
 clear hn ha h;go_enter Tryz.func119,Tryz.ntmps119;go_wp2;rw[run_callFunc_extern Tryz.func158 (by kernel_rfl) (by kernel_rfl) (by kernel_rfl) (e:=Extern.BytealgCount.count) (by kernel_rfl),uU];simp only[Result.andThen];rw[Oper.upon_value];go_wp2;go_ret;exact⟨rfl,rfl⟩
theorem index_one (v:Value) (l:List UInt8) (g d:Nat) (w:World) (h:eR w v l) (hl:l≠[]) (h0:w.cell? ⟨g,0,none⟩=some (.int .u8 0)):
 Calls Tryz.prog 120 #[v,.slice (some ⟨g,0,none⟩) 1 d] w fun e w'=>e= .returned (.int .i64 (Lib.indexByte l 0))∧w=w':=by
 obtain⟨p,c,rfl,hc,hm,hn,ha⟩:=h.DU;cases p with
 |none=>exact absurd (hn rfl).1 hl
 |some a=>refine(Tryz.bytes_Index_one_at a l.length c g 0 d (Lib.numsL l) 0 w (Lib.numsL_length l) (ha a rfl).2 h0).mono ?_;rintro e w' ⟨rfl,rfl⟩;refine⟨?_,rfl⟩;rw[Lib.bytesOf_numsL];rfl
theorem Lp {l:List UInt8} (h:l.count 0=0):eI l=l:=by
 induction l with
 |nil=>rfl
 |cons c t ih=>
  rw[List.count_cons] at h;have hc:c≠0:=by rintro rfl;simp at h
  rw[eI,if_neg hc,ih (by omega)]
theorem S2 {l:List UInt8} (h:l.count 0≠0):∃k:Nat,Lib.indexByte l 0=(k:Int)∧k < l.length∧eI l=l.take k++[0xef,0xbf,0xbd]++eI (l.drop (k+1))∧l.count 0=(l.drop (k+1)).count 0+1:=by
 induction l with
 |nil=>exact absurd rfl h
 |cons c t ih=>
  by_cases hc:c=0;·subst hc;exact⟨0,by simp[Lib.indexByte],by simp,by simp[eI],by simp⟩
  ·rw[List.count_cons] at h;have hb:(c==0)=false:=by simp[hc]
   rw[hb] at h;obtain⟨k,h1,h2,h3,h4⟩:=ih (by simpa using h);refine⟨k+1,?_,by simpa using h2,?_,?_⟩;·unfold Lib.indexByte;simp[hb,h1]
   ·rw[eI,if_neg hc,h3];simp
   ·rw[List.count_cons,hb,List.drop_succ_cons];simpa using h4
theorem WO (l:List UInt8):(eI l).length=l.length+2*l.count 0:=by
 induction l with
 |nil=>rfl
 |cons c t ih=>
  rw[List.count_cons,eI];by_cases hc:c=0;·subst hc;simp[ih];omega
  ·rw[if_neg hc];simp[ih,hc];omega
theorem S3 {w:World} {v:Value} {l:List UInt8} (h:eR w v l) (hl:l.length≤4000000000):∃v' w',(Builtin.append_ #[25,25] 25 #[.slice none 0 0,v]).run Tryz.prog w= .ok v' w'∧eR w' v' l∧Below w.heap.size w w':=by
 obtain⟨i0,hi,vN,rW,qK⟩:=info_parts zI;obtain⟨p,c,rfl,hc,hm,hn,ha⟩:=h.DU;cases p with
 |none=>obtain⟨rfl,rfl⟩:=hn rfl;exact⟨.slice none 0 0,w,run_append_owned_none (P:=Tryz.prog) (w:=w) w.heap.size 25 25 5 i0 1 Tryz.underlying25 hi (.slice none 0 0) 0 [] (World.ownsRow_nil _ _ _ _),.inl ⟨rfl,rfl⟩,Below.refl _ _⟩
 |some a=>
  obtain⟨v',w',h1,h2,h3,_⟩:=run_append_own (P:=Tryz.prog) (w:=w) w.heap.size 25 25 5 i0 (.int .u8 0) 1 1 Tryz.underlying25 hi vN rW qK rfl (by decide) (.slice none 0 0) 0 [] (World.ownsRow_nil _ _ _ _) a l.length c (l.map iN) (by simp)
   (fun j u hj=>by
     have KV:j < l.length:=by have:=(List.getElem?_eq_some_iff.1 hj).1;simpa using this
     rw[List.getElem?_map,List.getElem?_eq_getElem KV] at hj
     rw[(ha a rfl).2 j KV,←Option.some.inj hj]
     simp[Lib.numsL,List.getD,KV,iN])
   (fun u hu=>by obtain⟨b,_,rfl⟩:=List.mem_map.1 hu;rfl) (by unfold maxLen;omega) (by omega) (Nat.le_refl _)
  refine⟨v',w',h1,fC.Uz (base:=w.heap.size) ?_,(Below.refl _ _).grown h3 (Nat.le_refl _) (fun k hk=>by cases hk)⟩;unfold fC;simpa using h2
theorem wpList_append_run {P:Program} {w:World} {ops:Array Oper} {rest:List Oper} {o:Oper} {a:Act} {Q:Exit→Act→World→Prop} (tJ:o.guard=none) (s x:Operand) (t:TypeId)
 (ho:o.op= .call {callee:= .builtin .append,args:= #[s,x],argTypes:= #[t,t]}) (u v:Value) (hs:a.eval s=u) (hx:a.eval x=v) {v':Value} {w':World}
 (hr:(Builtin.append_ #[t,t] o.type #[u,v]).run P w= .ok v' w') (h:wpList P ops Q rest (a.put o.dst v') w'):wpList P ops Q (o::rest) a w:=by
 refine wpList_plain tJ fun K hK=>?_;unfold Oper.wp execOp;simp only[ho,resolve,invoke,builtin,Sem.run_bind,Sem.run_pure,Result.andThen_ok,List.map_toArray,List.map_cons,List.map_nil,hs,hx,hr];exact hK _ _ h
def UD (w:World) (h N:Nat) (acc p:List UInt8) (a b:World):Prop:=(Lib.Buf w a h N acc→Lib.Buf w b h N acc)∧(Lib.Buf w a h N (acc++p)→Lib.Buf w b h N (acc++p))
theorem rR (w:World) (h N:Nat) (acc p:List UInt8):N3 (UD w h N acc p) where
 refl _:=⟨id,id⟩
 trans h1 h2:=⟨fun h=>h2.1 (h1.1 h),fun h=>h2.2 (h1.2 h)⟩
theorem PR {w a:World} {h N:Nat} {l:List UInt8} (hb:Lib.Buf w a h N l):Lib.Buf w a.drew h N l:=⟨hb.1.drew,hb.2,hb.3,hb.4,hb.5⟩
theorem WQ {w a:World} {h N:Nat} {l p:List UInt8} (hb:Lib.Buf w a h N (l++p)):Lib.Buf w a h N l:=
 ⟨hb.1,hb.2,hb.3,fun j x hx=>hb.4 j x (by rw[List.getElem?_append_left (List.getElem?_eq_some_iff.1 hx).1];exact hx),Nat.le_trans (by rw[List.length_append];omega) hb.5⟩
theorem PS {w W:World} {N:Nat} {acc p:List UInt8} {v:Value} {o:Oper} {a:Act} {K:Act→World→Prop} {Q:Exit→Act→World→Prop} (d s:Operand)
 (ho:o.op= .call {callee:= .builtin .copy,args:= #[d,s],argTypes:= #[25,25]}) (hty:o.type=3) (hd:a.eval d=Lib.tailV w.heap.size N acc.length) (hs:a.eval s=v) (hp:Lib.HoldsBytes w v p) (ahQ:acc.length+p.length≤N) (hb:Lib.Buf w W w.heap.size N acc)
 (hK:∀u w',UD w w.heap.size N acc p W w'→(u= .int .i64 (p.length:Int)∧Lib.Buf w w' w.heap.size N (acc++p))→K (a.put o.dst u) w'):o.wp Tryz.prog a W K Q:=by
 obtain⟨w2,hr,dE⟩:=Lib.copy_part (P:=Tryz.prog) w W w.heap.size N acc p v 25 3 5 Tryz.underlying25 (by kernel_rfl) (Nat.le_refl _) hb hp ahQ;rw[←hty] at hr;exact Lib.wp_copy_run W d s 25 25 ho _ _ hd hs hr (hK _ _ ⟨fun _=>WQ dE,fun _=>dE⟩ ⟨rfl,dE⟩)
theorem ZK (N:Nat) (hN:N≤4000000000) (w:World):∃w',(Instr.makeSlice 25 (.int .i64 (N:Int)) (.int .i64 (N:Int))).run Tryz.prog w= .ok (.slice (some ⟨w.heap.size,0,none⟩) N N) w'∧Lib.Buf w w' w.heap.size N []:=by obtain⟨i0,hi,vN,rW,qK⟩:=info_parts zI;have h:=run_make (P:=Tryz.prog) w 25 5 i0 (.int .u8 0) Tryz.underlying25 hi vN .i64 .i64 (N:Int) (N:Int) (by omega) (by omega) (by rw[qK];omega) (by omega);rw[rW] at h;refine⟨_,by simpa using h,?_⟩;exact Lib.Buf.start w (madeCells (Value.int .u8 0).cells N) 5 N 0 (by simp[madeCells])
theorem ZL {w w':World} {h N:Nat} {l:List UInt8} (hb:Lib.Buf w w' h N l) (hN:N=l.length) (hm:N≤maxLen):eR w' (.slice (some ⟨h,0,none⟩) N N) l:=by subst hN;refine .inr ⟨h,0,_,rfl,Nat.le_refl _,hm,fun j hj=>?_⟩;rw[Nat.zero_add];exact hb.holds j _ (List.getElem?_eq_getElem hj)
theorem wrap_small {x:Int} (h0:0≤x) (h1:x≤9000000000000000000):IntKind.i64.wrap x=x:=by rw[IntKind.wrap_i64];omega
theorem Bx:Tryz.prog.elem 25=5:=by simp[Program.elem,Tryz.underlying25]
theorem Ji (g off n c k:Nat) (h1:k≤n) (hk:k < c) (W:World):(Instr.slice 25 (.slice (some ⟨g,off,none⟩) n c) (some (.int .i64 (k:Int))) none none).run Tryz.prog W= .ok (.slice (some ⟨g,off+k,none⟩) (n - k) (c - k)) W:=by rw[run_slice_l W 25 _ _ _ (by rw[Bx];exact Tryz.underlying25) .i64 _ (by omega) (by omega),Bx,Tryz.sizeOf5];simp[Result.andThen,sliced,Addr.add,show¬c=k by omega]
theorem ZM (g off n c k j:Nat) (h1:k≤j) (h2:j≤c) (hk:k < c) (W:World):(Instr.slice 25 (.slice (some ⟨g,off,none⟩) n c) (some (.int .i64 (k:Int))) (some (.int .i64 (j:Int))) none).run Tryz.prog W= .ok (.slice (some ⟨g,off+k,none⟩) (j - k) (c - k)) W:=by rw[run_slice_lh W 25 _ _ _ (by rw[Bx];exact Tryz.underlying25) .i64 .i64 _ _ (by omega) (by omega) (by omega),Bx,Tryz.sizeOf5];simp[Result.andThen,sliced,Addr.add,show¬c=k by omega]
theorem CU (h N k:Nat) (hk:k≤N) (W:World):(Instr.slice 25 (.slice (some ⟨h,0,none⟩) N N) (some (.int .i64 (k:Int))) none none).run Tryz.prog W= .ok (Lib.tailV h N k) W:=Lib.run_slice_tailV W 25 5 Tryz.underlying25 Tryz.sizeOf5 h N k hk
theorem Jj {w:World} {g off c:Nat} {l:List UInt8} (h:eR w (.slice (some ⟨g,off,none⟩) l.length c) l) (k n:Nat) (hn:k+n≤l.length):Lib.HoldsBytes w (.slice (some ⟨g,off+k,none⟩) n (c - k)) ((l.drop k).take n):=by
 have hlen:((l.drop k).take n).length=n:=by simp;omega
 refine⟨_,c - k,by rw[hlen],(fun h=>by cases h),fun a ha i x hx=>?_⟩;obtain rfl:(⟨g,off+k,none⟩:Addr)=a:=Option.some.inj ha;rcases h with⟨h1,_⟩|⟨g',Yj,c',h1,_,_,aW⟩;·cases h1
 ·injection h1 with h2 _ _;injection h2 with h2;injection h2 with h2 h3 _;subst h2 h3;have hi:i < n:=by have:=(List.getElem?_eq_some_iff.1 hx).1;omega
  have Ul:k+i < l.length:=by omega
  rw[List.getElem?_take_of_lt hi,List.getElem?_drop,List.getElem?_eq_getElem Ul] at hx;rw[show(⟨g,off+k,none⟩:Addr).add i=⟨g,off+(k+i),none⟩ by unfold Addr.add;split<;>simp_all<;>omega,aW (k+i) Ul,Option.some.inj hx]
theorem WR {w:World} {g off c k:Nat} {l:List UInt8} (h:eR w (.slice (some ⟨g,off,none⟩) l.length c) l) (hk:k≤l.length) (hc:l.length≤c):∃p,(∀W,(Instr.slice 25 (.slice (some ⟨g,off,none⟩) l.length c) (some (.int .i64 (k:Int))) none none).run Tryz.prog W= .ok (.slice p (l.length - k) (c - k)) W)∧Lib.HoldsBytes w (.slice p (l.length - k) (c - k)) (l.drop k):=by
 by_cases hl:k < l.length;·refine⟨_,Ji g off l.length c k hk (by omega),?_⟩;have:=Jj h k (l.length - k) (by omega);rwa[List.take_of_length_le (by rw[List.length_drop];omega)] at this
 ·obtain rfl:k=l.length:=by omega
  refine⟨if c=l.length then some ⟨g,off,none⟩ else(some ⟨g,off,none⟩:Option Addr).map (·.add (l.length*1)),fun W=>?_,_,_,by rw[List.drop_length,List.length_nil,Nat.sub_self],fun _=>List.drop_length,fun a _ i x hx=>by rw[List.drop_length] at hx;simp at hx⟩;rw[run_slice_l W 25 _ _ _ (by rw[Bx];exact Tryz.underlying25) .i64 _ (by omega) (by omega),Bx,Tryz.sizeOf5];simp[Result.andThen,sliced]
theorem WS (h N:Nat) (W:World):(Instr.slice 25 (.slice (some ⟨h,0,none⟩) N N) (some (.int .i64 0)) (some (.int .i64 (N:Int))) none).run Tryz.prog W= .ok (.slice (some ⟨h,0,none⟩) N N) W:=by rw[run_slice_lh W 25 _ _ _ (by rw[Bx];exact Tryz.underlying25) .i64 .i64 _ _ (by omega) (by omega) (by omega),Bx,Tryz.sizeOf5];simp[Result.andThen,sliced,Addr.add]
theorem WT {w:World} {g off c k:Nat} {l:List UInt8} (h:eR w (.slice (some ⟨g,off,none⟩) l.length c) l) (hk:k < l.length):eR w (.slice (some ⟨g,off+k,none⟩) (l.length - k) (c - k)) (l.drop k):=by
 rcases h with⟨h1,_⟩|⟨g',Yj,c',h1,hlc,hcm,aW⟩;·cases h1
 ·injection h1 with h2 _ h4;injection h2 with h2;injection h2 with h2 h3 _;subst h2 h3 h4;have:=eR.cut hlc hcm aW (Nat.le_of_lt hk);rwa[List.length_drop] at this
theorem Ku (v:Value) (l:List UInt8) (g d:Nat) (nc:Nat) (nb:Nat) (w:World) (h:eR w v l) (h0:w.cell? ⟨g,0,none⟩=some (.int .u8 0)) (hn:Lib.HoldsBytes w (.slice (some ⟨nb,0,none⟩) 3 nc) [0xef,0xbf,0xbd]) (hl:l.length≤1000000000):
 Calls Tryz.prog 80 #[v,.slice (some ⟨g,0,none⟩) 1 d,.slice (some ⟨nb,0,none⟩) 3 nc,.int .i64 (-1)] w fun e w'=>∃v',e= .returned v'∧eR w' v' (eI l)∧Below w.heap.size w w':=by
 have HV:=hid h;have HN:=hid hn;have HC0:=hid h0;have hCO:=hid (PQ v l g d w h h0);have oN:l.count 0≤l.length:=List.count_le_length;have HLN:=hid h.len;by_cases hz:l.count 0=0;·obtain⟨v',w',hr,h1,h2⟩:=S3 h (by omega);have H1:=hid h1;have H2:=hid h2;have HE:=hid (Lp hz);rw[hz] at hCO;obtain⟨A,c,rfl,_,_⟩:=HLN.out;clear h hn h0 h1 h2 oN;go_enter Tryz.func80,Tryz.ntmps80;go_wp2_with fail;refine hCO.out.mono ?_;rintro e w5 ⟨rfl,rfl⟩;go_wp2_with (at_builtin;refine wpList_append_run rfl _ _ 25 rfl _ _ rfl rfl hr ?_);go_ret;exact⟨_,rfl,by rw[HE.out];exact H1.out,H2.out⟩
 ·have eG:l≠[]:=by rintro rfl;exact hz rfl
  obtain⟨gv,off,c,Ee,hlc,hcm,aW⟩:=h.form eG;subst Ee;obtain⟨m,hm⟩:∃m,m=l.count 0:=⟨_,rfl⟩;rw[←hm] at hCO oN hz;obtain⟨N,hN⟩:∃N,N=l.length+2*m:=⟨_,rfl⟩;obtain⟨wm,hmk,alG⟩:=ZK N (by omega) w;have aqF:(Instr.makeSlice 25 (.int .i64 ((l.length:Int)+(m:Int)*2)) (.int .i64 ((l.length:Int)+(m:Int)*2))).run Tryz.prog w= .ok (.slice (some ⟨w.heap.size,0,none⟩) N N) wm:=by rw[←hmk];congr<;>omega
  have HBU:=hid alG;have HM:=hid hm;have HNN:=hid hN;have hm0:((m:Int)==0)=false:=by simp;omega
  have UE:N≤3000000000:=by omega
  clear hm hN hz;clear h hn h0 alG hmk aW HLN;go_enter Tryz.func80,Tryz.ntmps80;go_wp2_with fail;refine hCO.out.mono ?_;rintro e w5 ⟨rfl,rfl⟩;go_wp2_with fail;go_loopg [49,11,12] m (fun gk s49 PT PU wr=>∃(i k:Nat) (acc:List UInt8),gk=m - i∧i≤m∧k≤l.length∧s49= .int .i64 (i:Int)∧PT= .int .i64 (acc.length:Int)∧PU= .int .i64 (k:Int)∧acc.length=k+2*i∧Hid (Lib.Buf w wr w.heap.size N acc)∧Hid (eI l=acc++eI (l.drop k))∧Hid ((l.drop k).count 0=m - i));case atStart=>exact⟨0,0,[],rfl,Nat.zero_le _,Nat.zero_le _,rfl,rfl,rfl,rfl,HBU,hid rfl,hid HM.out.symm⟩
  case round=>
   obtain⟨i,k,acc,rfl,him,mD,rfl,rfl,rfl,hal,HB,HR,HC⟩:=hrel;obtain⟨hN1,hN2⟩:N≤l.length+2*m∧l.length+2*m≤N:=by have:=HNN.out;omega
   obtain⟨ha1,ha2⟩:acc.length≤k+2*i∧k+2*i≤acc.length:=by omega
   clear hal;by_cases bC:i < m
   ·have hcz:(l.drop k).count 0≠0:=by rw[HC.out];omega
    obtain⟨j,XT,Q5,hj3,hj4⟩:=S2 hcz;rw[List.length_drop] at Q5;obtain⟨q,hq⟩:∃q,q=k+j:=⟨_,rfl⟩;have Cn:=Ji gv off l.length c k (by omega) (by omega);have Wd:=ZM gv off l.length c k q (by omega) (by omega) (by omega);have hs3:=CU w.heap.size N acc.length (by omega);have hs4:=CU w.heap.size N (acc.length+j) (by omega);rw[show q - k=j by omega,show((q:Nat):Int)=(k:Int)+(j:Int) by omega] at Wd;rw[show((acc.length+j:Nat):Int)=(acc.length:Int)+(j:Int) by omega] at hs4;have HIX:=hid (index_one _ (l.drop k) g d wr (WT (HV.out.below HB.out.below) (by omega)) (by intro h0;rw[h0] at hcz;exact hcz rfl) ((HB.out.below.cell (by exact World.block_lt_of_cell? w _ HC0.out)).trans HC0.out));rw[XT] at HIX;have hpa:=Jj HV.out k j (by omega);have FV:((l.drop k).take j).length=j:=by simp;omega
    have ZN:=hid hpa;have HJ3:=hid hj3;have HJ4:=hid hj4;clear hpa hj3 hj4 hcz XT;have vA:(i:Int) < (m:Int):=by omega
    go_wp2_with fail;refine HIX.out.mono ?_;rintro e w5 ⟨rfl,rfl⟩;go_wp2_with fail;apply kG (UD w w.heap.size N acc ((l.drop k).take j)) [.val _,.val _,.val _,.val _,.val _,.val _,.val _,.val _,.any (fun v W=>v= .int .i64 (j:Int)∧Lib.Buf w W w.heap.size N (acc++(l.drop k).take j)),.val (.int .i64 ((acc.length:Int)+(j:Int)))] 10 _ rfl rfl rfl (by kernel_rfl) (by kernel_rfl) (by kernel_rfl) (rR _ _ _ _ _);simp only[List.take_succ_cons,List.take_zero]
    iterate 8 (apply aS.val; ·rfl
               ·intro W hW hF K hK;go_simp;exact hK _ ((rR _ _ _ _ _).refl _)
               simp only[pq])
    apply aS.any rfl rfl (fun v w1 w2 h hs=>⟨h.1,hs.2 h.2⟩);·intro W hW hF K hK;exact PS _ _ rfl rfl rfl rfl ZN.out (by rw[FV];omega) (hW.1 (PR HB.out)) (by rw[FV];exact hK)
    intro u;simp only[pq];apply aS.val; ·rfl
    ·intro W hW hF K hK;obtain⟨rfl,hB2⟩:=hF.1 (by rfl);have Gs:=hK _ ((rR _ _ _ _ _).refl W);clear hB2 hF hW hK;have Wg:IntKind.i64.wrap ((acc.length:Int)+(j:Int))=(acc.length:Int)+(j:Int):=wrap_small (by omega) (by omega);go_simp;exact Gs
    simp only[pq];refine aS.nil ?_;intro w8 rA hF8;have G6:=hid hF8.1.2;clear hF8 rA;have adN:(acc++(l.drop k).take j).length=acc.length+j:=by rw[List.length_append,FV]
    obtain⟨w9,hr9,B9⟩:=Lib.copy_part (P:=Tryz.prog) w w8 w.heap.size N (acc++(l.drop k).take j) [0xef,0xbf,0xbd] _ 25 3 5 Tryz.underlying25 (by kernel_rfl) (Nat.le_refl _) G6.out HN.out (by rw[adN];simp;omega);rw[adN] at hr9;have wM:=hid B9;clear B9;go_simp;go_wp2_with (at_builtin;refine Lib.wpList_copy_run _ rfl _ _ 25 25 rfl _ _ rfl rfl hr9 ?_);go_roundg (m - (i+1));case measure=>omega
    case rel=>
     have h3:=HJ3.out;have h4:=HJ4.out;rw[List.drop_drop] at h3 h4;refine⟨i+1,k+(j+1),acc++(l.drop k).take j++[0xef,0xbf,0xbd],rfl,by omega,by omega,by go_num,by rw[List.length_append,adN];go_num,by go_num,by rw[List.length_append,adN];simp;omega,wM,hid ?_,hid ?_⟩;·rw[HR.out,h3];simp[List.append_assoc]
     ·have:=HC.out;omega
   ·obtain rfl:i=m:=by omega
    have hc0:(l.drop k).count 0=0:=by rw[HC.out];omega
    have hre:=Lp hc0;have Lq:=hid (HR.out.trans (by rw[hre]):eI l=acc++l.drop k);have vA:¬((i:Int) < (i:Int)):=by omega
    obtain⟨p,Cn,hp⟩:=WR HV.out mD hlc;have hs3:=CU w.heap.size N acc.length (by omega);have FV:(l.drop k).length=l.length - k:=List.length_drop;obtain⟨r,hr⟩:∃r,r=l.length - k:=⟨_,rfl⟩;rw[←hr] at Cn hp FV;have hs4:=WS w.heap.size N;rw[show(N:Int)=(acc.length:Int)+(r:Int) by omega] at hs4;have Wg:IntKind.i64.wrap ((acc.length:Int)+(r:Int))=(acc.length:Int)+(r:Int):=wrap_small (by omega) (by omega);have HNR:=hid (show N=acc.length+r by omega);clear hr;have ZN:=hid hp;clear hp hre hc0;go_wp2_with fail;apply kG (UD w w.heap.size N acc (l.drop k)) [.val _,.val _,.val _,.val _,.val _,.val _,.val _,.any (fun v W=>v= .int .i64 (r:Int)∧Lib.Buf w W w.heap.size N (acc++l.drop k)),.val (.int .i64 ((acc.length:Int)+(r:Int)))] 9 _ rfl rfl rfl (by kernel_rfl) (by kernel_rfl) (by kernel_rfl) (rR _ _ _ _ _);simp only[List.take_succ_cons,List.take_zero]
    iterate 7 (apply aS.val; ·rfl
               ·intro W hW hF K hK;go_simp;exact hK _ ((rR _ _ _ _ _).refl _)
               simp only[pq])
    apply aS.any rfl rfl (fun v w1 w2 h hs=>⟨h.1,hs.2 h.2⟩);·intro W hW hF K hK;exact PS _ _ rfl rfl rfl rfl ZN.out (by rw[FV,HNR.out];exact Nat.le_refl _) (hW.1 (PR HB.out)) (by rw[FV];exact hK)
    intro u;simp only[pq];apply aS.val; ·rfl
    ·intro W hW hF K hK;obtain⟨rfl,hB2⟩:=hF.1 (by rfl);have Gs:=hK _ ((rR _ _ _ _ _).refl W);clear hB2 hF hW hK;go_simp;exact Gs
    simp only[pq];refine aS.nil ?_;intro w8 rA hF8;have G6:=hid hF8.1.2;clear hF8 rA;go_simp;go_wp2_with fail;go_ret;refine⟨_,rfl,?_,G6.out.below⟩;rw[Lq.out];exact ZL G6.out (by rw[List.length_append,FV];exact HNR.out) (by unfold maxLen;omega)
theorem PV (v:Value) (l:List UInt8) (g d:Nat) (nc:Nat) (nb:Nat) (w:World) (h:eR w v l) (h0:w.cell? ⟨g,0,none⟩=some (.int .u8 0)) (hn:Lib.HoldsBytes w (.slice (some ⟨nb,0,none⟩) 3 nc) [0xef,0xbf,0xbd]) (hl:l.length≤1000000000):
 Calls Tryz.prog 45 #[v,.slice (some ⟨g,0,none⟩) 1 d,.slice (some ⟨nb,0,none⟩) 3 nc] w fun e w'=>∃v',e= .returned v'∧eR w' v' (eI l)∧Below w.heap.size w w':=by
 have H:=hid (Ku v l g d nc nb w h h0 hn hl);obtain⟨A,c,rfl,_,_⟩:=h.len;clear h h0 hn;go_enter Tryz.func45,Tryz.ntmps45;go_wp2_with fail;refine H.out.mono ?_;rintro e w' ⟨v',rfl,h1,h2⟩;go_wp2_with fail;go_ret;exact⟨v',rfl,h1,h2⟩
def eD (l:List UInt8):List UInt8:=pM (dM (eI l))
theorem ZO:kP 65533=[0xef,0xbf,0xbd]:=by decide+kernel
theorem PW (v:Value) (l:List UInt8) (w:World) (hW:Laid w) (h:eR w v l) (hl:l.length≤100000000):Calls Tryz.prog 21 #[v] w fun e w'=>e= .returned (.string (aA (eD l)))∧Below w.heap.size w w':=by
 have HW:=hid hW;have HV:=hid h;have Us:=En _ l (Nat.le_refl _);have UB:(eI l).length≤3*l.length:=by rw[WO];have:l.count 0≤l.length:=List.count_le_length;omega
 obtain⟨A,c,rfl,_,_⟩:=h.len;have HS:=hid (fun W=>iY 65533 (by unfold eA;decide) W);have HD:=hid (fun v W hW h=>FY v (eI l) W hW h (by omega));have HE:=hid (fun W=>Kq (aA (dM (eI l))) W (by rw[aD];omega));rw[ZO] at HS;clear h hW;go_enter Tryz.func21,Tryz.ntmps21;go_wp2_with fail;have eN:Below w.heap.size w (w.alloc (.cells #[.int .u8 0] 5)):=(Below.refl _ _).alloc (Nat.le_refl _) _;have Oc:(w.alloc (.cells #[.int .u8 0] 5)).cell? ⟨w.heap.size,0,none⟩=some (.int .u8 0):=by rw[World.cell?_alloc_mark w #[.int .u8 0] 5 (0,0) 0];rfl
 have HV1:=hid (HV.out.below eN);have HW1:=hid (HW.out.step eN);have Cm:=hid eN;clear eN;generalize w.alloc (.cells #[.int .u8 0] 5)=w1 at*;refine(HS.out _).mono ?_;rintro e w' ⟨rfl,rfl⟩;have G2:=run_bytes_of_string (P:=Tryz.prog) w1 9 25 5 (aA [0xef,0xbf,0xbd]) Tryz.underlying9 Tryz.underlying25 Tryz.underlying5;have Kr:=I0 (aA [0xef,0xbf,0xbd]) w1;rw[aC] at Kr;have SH:=Kr.resolve_right (by rw[aD];unfold maxLen;decide);have uD:=Below.made (aA [0xef,0xbf,0xbd]) w1 (grownCap w1 (aA [0xef,0xbf,0xbd]).size 0 5) 5;generalize grownCap w1 (aA [0xef,0xbf,0xbd]).size 0 5=cap at*;obtain⟨w2,JR⟩:∃w2,w2=(w1.alloc (.cells (bytesRow (aA [0xef,0xbf,0xbd]) cap) 5 ((bytesRow (aA [0xef,0xbf,0xbd]) cap).size,(bytesRow (aA [0xef,0xbf,0xbd]) cap).size+1))).drew:=⟨_,rfl⟩;have aqG:(convert 9 25 (.string (aA [0xef,0xbf,0xbd]))).run Tryz.prog w1= .ok (.slice (some ⟨w1.heap.size,0,none⟩) 3 cap) w2:=G2.trans (by rw[JR];rfl);rw[←JR] at SH uD;have HN:=hid (show Lib.HoldsBytes w2 (.slice (some ⟨w1.heap.size,0,none⟩) 3 cap) [0xef,0xbf,0xbd] by
  obtain⟨p,c,h1,h2,h3,h4,h5⟩:=SH.DU;refine⟨p,c,by rw[←h1];rfl,fun h=>absurd (h4 h).1 (by decide),fun a ha i x hx=>?_⟩;have hi:i < 3:=(List.getElem?_eq_some_iff.1 hx).1;rw[(h5 a ha).2 i hi];simp only[Lib.numsL,List.getD,List.getElem?_map,hx];rfl)
 have H2:=hid ((Cm.out.trans (uD.mono Cm.out.size)));have HR:=hid (PV _ l w.heap.size 1 cap w1.heap.size w2 (HV1.out.below uD) ((uD.cell (World.block_lt_of_cell? w1 _ Oc)).trans Oc) HN.out (by omega));clear G2 Kr SH uD JR Oc;go_wp2_with fail;refine HR.out.mono ?_;rintro e w3 ⟨v3,rfl,Fi,cF⟩;replace H2:=aR H2 cF;have HD3:=hid (HD.out v3 w3 (HW.out.step H2.out) Fi);obtain⟨A3,c3,rfl,_,_⟩:=Fi.len;clear Fi cF;go_wp2_with fail;refine HD3.out.mono ?_;rintro e w4 ⟨rfl,cG⟩;replace H2:=aR H2 cG;clear cG;go_wp2_with fail;refine(HE.out _).mono ?_;rintro e w5 ⟨rfl,aM⟩;go_wp2_with fail;go_ret;refine⟨?_,H2.out.trans (aM.mono H2.out.size)⟩;unfold eD;rw[aC];rfl
theorem adO {c:Nat} (h:lI c=true):eA c:=by unfold lI at h;simp only[Bool.and_eq_true,Bool.or_eq_true,decide_eq_true_eq] at h;unfold eA;omega
theorem WU {c:Nat} (h:eA c):lI c=true:=by unfold lI;simp only[Bool.and_eq_true,Bool.or_eq_true,decide_eq_true_eq];unfold eA at h;omega
theorem F2:∀(n p sign bJ:Nat) (first:Bool) (l:List Nat) (s:List UInt8) (r:List Nat),(∀c∈l,eA c)→qG n p sign bJ first l s=some r→∀c∈r,eA c:=by
 intro n;induction n with
 |zero=>
  intro p sign bJ first l s r hl h
  rw[qG] at h;split at h;·cases h;exact hl
  ·cases h
 |succ n ih=>
  intro p sign bJ first l s r hl h
  rw[qG] at h;split at h;·cases h;exact hl
  split at h;·cases h
  rename_i d k hr;split at h;·cases h
  rename_i wT;refine ih _ _ _ _ _ _ _ (fun c hc=>?_) h;rcases List.mem_append.1 hc with hc|hc;·exact hl c (List.mem_of_mem_take hc)
  ·rcases List.mem_cons.1 hc with rfl|hc
   ·refine adO ?_;cases hs:lI (sign+(p+d) / (l.length+1)) with
    |true=>rfl
    |false=>exact absurd (.inr hs) wT
   ·exact hl c (List.mem_of_mem_drop hc)
theorem S4 {s:List UInt8} {l:List Nat} (h:fQ s=some l):∀c∈l,eA c:=by
 unfold fQ at h;split at h
 ·split at h;·cases h
  ·refine F2 _ _ _ _ _ _ _ _ (fun c hc=>?_) h;obtain⟨b,_,rfl⟩:=List.mem_map.1 hc;have:=b.toNat_lt;unfold eA;omega
 ·exact F2 _ _ _ _ _ _ _ _ (fun c hc=>by cases hc) h
theorem Jk:∀(n:Nat) (l:List UInt8),l.length≤n→(dC l).length≤l.length:=by
 intro n;induction n with
 |zero=>intro l h;have:l=[]:=List.length_eq_zero_iff.1 (by omega);subst this;simp[mH]
 |succ n ih=>
  intro l h;by_cases h0:l=[];·subst h0;simp[mH]
  ·rw[sM h0,List.length_cons];have h1:=qB l;have h2:=(MQ h0).2;have:=ih (l.drop (cH l).2) (by rw[List.length_drop];omega);rw[List.length_drop] at this;omega
theorem WV {l:List UInt8} (h:l≠[]):eA (cH l).1:=by
 by_cases hb:(cH l).1=65533∧(cH l).2=1;·unfold eA;omega
 ·have:=(jZ l h _ _ rfl (fun h1 h2=>hb ⟨h1,h2⟩)).ok;unfold eA;omega
theorem DV:∀(n:Nat) (l:List UInt8),l.length≤n→∀c∈dC l,eA c:=by
 intro n;induction n with
 |zero=>intro l h;have:l=[]:=List.length_eq_zero_iff.1 (by omega);subst this;simp[mH]
 |succ n ih=>
  intro l h;by_cases h0:l=[];·subst h0;simp[mH]
  ·rw[sM h0];have h1:=qB l;intro c hc;rcases List.mem_cons.1 hc with rfl|hc;·exact WV h0
   ·exact ih (l.drop (cH l).2) (by rw[List.length_drop];omega) c hc
def Hc (o:Option (List UInt8)) (w:World) (e:Ending) (w':World):Prop:=
 (∃x:List UInt8,e= .returned (.tuple #[.string (aA x),.bool o.isSome])∧∀t,o=some t→x=t)∧Below w.heap.size w w'
theorem mQ {o:Option (List UInt8)} {w w':World} {x:List UInt8} {v:Value} (h:o=none) (hv:v= .tuple #[.string (aA x),.bool false]) (hb:Below w.heap.size w w'):Hc o w (.returned v) w':=by subst hv;exact⟨⟨x,by rw[h];rfl,fun t ht=>by rw[h] at ht;cases ht⟩,hb⟩
theorem uG {o:Option (List UInt8)} {w w':World} {x:List UInt8} {v:Value} (h:o=some x) (hv:v= .tuple #[.string (aA x),.bool true]) (hb:Below w.heap.size w w'):Hc o w (.returned v) w':=by subst hv;exact⟨⟨x,by rw[h];rfl,fun t ht=>by rw[h] at ht;cases ht;rfl⟩,hb⟩
theorem PX {D:List UInt8→Option (List Nat)} {s:List UInt8} (h:T2.isPrefixOf s=true):fB D s=if qC s then(match D (s.drop 4) with
 |some l=>if nW l then some s else none
 |none=>none) else none:=by
 unfold fB;rw[if_pos h];by_cases hl:qC s=true;·rw[if_pos hl,if_pos hl];cases D (List.drop 4 s)<;>rfl
 ·rw[if_neg hl,if_neg hl]
theorem M5 {D:List UInt8→Option (List Nat)} {s:List UInt8} (h:T2.isPrefixOf s=false) (hl:qC s=true):fB D s=some s:=by unfold fB;rw[if_neg (by rw[h];decide),if_pos hl]
theorem Kv {D:List UInt8→Option (List Nat)} {s:List UInt8} (h:T2.isPrefixOf s=false) (hl:qC s=false):fB D s=if nW (dC (dM s))&&decide ((dC (dM s)).length≤255) then some (T2++CA (dC (dM s))) else none:=by unfold fB;rw[if_neg (by rw[h];decide),if_neg (by rw[hl];decide)]
theorem ahY:(⟨#[120,110,45,45]⟩:ByteArray)=aA T2:=rfl
theorem WW (l:List Nat) (h:l.length≤255) (hl:∀c∈l,c≤128511):(CA l).length≤100000:=by
 have h1:=TZ XW l h hl;have h2:(CA l).length≤pO kR (CA l):=by
  have key:∀m:List UInt8,m.length≤pO kR m:=by
   intro m;induction m with
   |nil=>simp
   |cons c m ih=>
    rw[kO,List.length_cons];have:1≤kR c:=by unfold kR;split<;>omega
    omega
  exact key _
 have h3:pO kR (qA l)≤5*(qA l).length:=Q4 _ 5 _ (fun c _=>by unfold kR;split<;>omega);have h4:(qA l).length≤256:=by
  unfold qA;split;·simp
  ·have:=VR l;simp;omega
 have h5:eK l 128≤255:=by have:=yX l;omega
 omega
theorem M6 (s:List UInt8) (w:World) (hW:Laid w) (hs:s.length≤300000000):Calls Tryz.prog 219 #[.string (aA s)] w fun e w'=>Hc (fB fQ s) w e w':=by
 have HL:=hid (fun w=>RR s w (by omega));cases hx:T2.isPrefixOf s;have HC:=hid (fun w=>jX s T2 hx w);cases hl:qC s;have hF:=Kv (D:=fQ) hx hl;rw[hl] at HL;have HS:=hid (I1 s w hW (by omega));have Ar:=BK _ s (Nat.le_refl _);have tE:=Jk _ (dM s) (Nat.le_refl _);have xI:=hid (DV _ (dM s) (Nat.le_refl _));generalize dC (dM s)=l at*;have Uh:l.length≤900000000:=by omega
 clear Ar tE hx hl;cases Fj:nW l;have HF:Hid (fB fQ s=none):=hid (by rw[hF,Fj];rfl);clear hF;have tg:=Tg.k 4;rotate_left;have hle:∀c∈l,c≤128511:=fun c hc=>KL (NL ((KN Fj).1 c hc).1);by_cases Sv:l.length≤255;have HF:Hid (fB fQ s=some (T2++CA l)):=hid (by rw[hF,Fj];simp[Sv]);have HPE:=hid (fun v W (hr:tW W v l)=>OB v l W hr Sv (fun c hc=>⟨hle c hc,WU (xI.out c hc)⟩));have FV:=WW l Sv hle;have hps:(aA (CA l)).size≤100000:=by rw[aD];exact FV
 have HXA:Hid ((⟨#[120,110,45,45]⟩:ByteArray)++aA (CA l)=aA (T2++CA l)):=hid (by rw[ahY,←iL]);clear hF hle FV;have tg:=Tg.k 5;rotate_left;have HF:Hid (fB fQ s=none):=hid (by rw[hF,Fj];simp[Sv]);have HPE:=hid (fun v W (hr:tW W v l)=>EM v l W hr (by omega) (by omega));clear hF hle;have tg:=Tg.k 6;rotate_left;have HF:Hid (fB fQ s=some s):=hid (M5 hx hl);rw[hl] at HL;clear hx hl;have tg:=Tg.k 3;rotate_left;have HC:=hid (fun w=>iZ s T2 hx w);have hw:=PX (D:=fQ) hx;cases hl:qC s;rw[hl] at HL hw;have HF:Hid (fB fQ s=none):=hid hw;clear hx hw hl;have tg:=Tg.k 0;rotate_left;rw[hl] at HL hw;have HD:=hid (fun w=>PL (s.drop 4) w (by rw[List.length_drop];omega));rcases hd:fQ (s.drop 4) with _|l;rw[hd] at hw HD;have HF:Hid (fB fQ s=none):=hid hw;clear hx hw hl hd;have tg:=Tg.k 1;rotate_left;rw[hd] at hw HD;have xI:=hid (S4 hd);have HF:Hid (fB fQ s=if nW l then some s else none):=hid hw;clear hx hw hl hd;have tg:=Tg.k 2;all_goals
  go_enter Tryz.func219,Tryz.ntmps219;go_wp2_with fail;refine(HL.out _).mono ?_;rintro e w' ⟨rfl,rfl⟩;go_wp2_with fail;refine(HC.out _).mono ?_;rintro e w' ⟨rfl,rfl⟩;go_wp2_with fail;first
  |(first|have:Tg 1:=tg|have:Tg 2:=tg)
   refine(HD.out _).mono ?_;rintro e w1 ⟨v,rfl,hv,hb⟩;first
   |have:Tg 2:=tg;simp only[Option.isSome_some];obtain⟨hr,afN⟩:=hv l rfl;have HLB:=hid (Iv v l w1 hr (by omega) xI.out);have HB:=hid hb;obtain⟨A,c,rfl,_⟩:=hr.len;clear hv hr hb;cases Fj:nW l with
    |true=>rw[Fj] at HLB;have sH:Hid (fB fQ s=some s):=hid (by rw[HF.out,Fj];rfl);clear Fj;go_wp2_with fail;refine(HLB.out).mono ?_;rintro e w2 ⟨rfl,dE⟩;go_wp2_with fail;go_ret2;exact uG sH.out rfl (HB.out.trans (dE.mono HB.out.size))
    |false=>rw[Fj] at HLB;have sH:Hid (fB fQ s=none):=hid (by rw[HF.out,Fj];rfl);clear Fj;go_wp2_with fail;refine(HLB.out).mono ?_;rintro e w2 ⟨rfl,dE⟩;go_wp2_with fail;go_ret2;exact mQ (x:=s) sH.out rfl (HB.out.trans (dE.mono HB.out.size))
   |simp only[Option.isSome_none];go_wp2_with fail;go_ret2;exact mQ (x:=s) HF.out rfl hb
  |(first|have:Tg 0:=tg|have:Tg 3:=tg)
   go_ret2;first
   |have:Tg 0:=tg;exact mQ (x:=[]) HF.out rfl (Below.refl _ _)
   |exact uG HF.out rfl (Below.refl _ _)
  |refine(HS.out).mono ?_;rintro e w1 ⟨v,rfl,hr0,hb⟩;have hr:=hr0.read;clear hr0;have HLB:=hid (Iv v l w1 hr (by omega) xI.out);rw[Fj] at HLB;have HB:=hid hb;first|have:Tg 4:=tg|have HR:=hid hr
   clear hr hb Fj;go_wp2_with fail;refine(HLB.out).mono ?_;rintro e w2 ⟨rfl,dE⟩;first
   |have:Tg 4:=tg
   |have cK:=aR HB dE;have HR2:=hid (HR.out.below dE);clear dE;go_wp2_with fail;refine(HPE.out _ _ HR2.out).mono ?_;first
    |have:Tg 6:=tg;rintro e w' ⟨rfl,rfl⟩;have hps:(aA []).size≤100000:=by rw[aD];simp
    |rintro e w3 ⟨rfl,cF⟩;have vC:=aR cK cF;clear cF
   go_wp2_with fail;go_ret2;first
   |have:Tg 4:=tg;exact mQ (x:=[]) HF.out rfl (HB.out.trans (dE.mono HB.out.size))
   |have:Tg 5:=tg;exact uG HF.out (by rw[←HXA.out];rfl) vC.out
   |exact mQ (x:=T2) HF.out rfl cK.out
theorem fN.stored {w:World} {base g c j:Nat} {l:List ByteArray} (h:fN w base (.slice (some ⟨g,0,none⟩) l.length c) l) (s:ByteArray):
 fN (w.setCell ⟨g,j,none⟩ (.string s)) base (.slice (some ⟨g,0,none⟩) l.length c) (l.set j s):=by
 have:=(World.ownsRow.stored h j (.string s)).1;unfold fN;rw[List.length_set];simpa[List.map_set] using this
theorem fN.lit (w:World) (l:List ByteArray) (hl:l.length≤4000000000):fN (w.alloc (.cells (l.map Value.string).toArray 9)) w.heap.size (.slice (some ⟨w.heap.size,0,none⟩) l.length l.length) l:=by have:=World.ownsRow_lit (base:=w.heap.size) (e:=9) (size:=1) w (l.map Value.string).toArray l.length (Nat.le_refl _) (by unfold maxLen;omega) (by simp);unfold fN;simpa using this
theorem ZP (q:UInt8):∀(s:List UInt8),(fZ q s).length≤s.length+1:=by
 intro s;induction s with
 |nil=>simp[fZ]
 |cons c t ih=>
  rw[fZ];split;·simp;omega
  ·split;·simp
   ·rename_i p r hp;rw[hp] at ih;simp at ih⊢;omega
theorem S5 (q:UInt8):∀(s:List UInt8),∀p∈fZ q s,p.length≤s.length:=by
 intro s;induction s with
 |nil=>intro p hp;have:p=[]:=by simpa[fZ] using hp
       subst this;simp
 |cons c t ih=>
  intro p hp;rw[fZ] at hp;split at hp
  ·rcases List.mem_cons.1 hp with rfl|hp;·simp
   ·have:=ih p hp;simp;omega
  ·split at hp
   ·have:p=[c]:=by simpa using hp
    subst this;simp
   ·rename_i a r hr;rcases List.mem_cons.1 hp with rfl|hp;·have:=ih a (by rw[hr];simp);simp;omega
    ·have:=ih p (by rw[hr];simp[hp]);simp;omega
theorem adP (m:List UInt8):m.length≤pO kQ m:=by
 induction m with
 |nil=>simp
 |cons c m ih=>
  rw[kO,List.length_cons];have:1≤kQ c:=by unfold kQ;(repeat' split)<;>omega
  omega
theorem PY (c:Nat):(lF c).1.length≤20:=by
 have h1:=T1 c;have h2:=adP (lF c).1;have h3:(kP c).length≤4:=by rw[uP];(repeat' split)<;>omega
 omega
theorem WX (l:List Nat):(rC l).length≤20*l.length:=by
 induction l with
 |nil=>simp[rC]
 |cons c t ih=>have:=PY c;unfold rC at*;rw[List.flatMap_cons,List.length_append,List.length_cons];omega
theorem S6 (c:Nat) (t:List Nat):rC (c::t)=(lF c).1++rC t:=rfl
theorem GQ {D:List UInt8→Option (List Nat)} {p t:List UInt8} {r:List (List UInt8)} (h:fB D p=some t):eJ D (p::r)=(eJ D r).map (t:: ·):=by rw[eJ,h];cases eJ D r<;>rfl
theorem GR {D:List UInt8→Option (List Nat)} {p:List UInt8} {r:List (List UInt8)} (h:fB D p=none):eJ D (p::r)=none:=by rw[eJ,h]
theorem S7 (w:World) (B b:Nat) (l:List UInt8) (h:rX w B b l) (Ic:B≤w.heap.size):
 Calls Tryz.prog 28 #[.pointer (some ⟨b,0,none⟩)] w fun e w'=>e= .returned (.string (aA l))∧Below B w w':=eU w B b l h Ic
theorem UF:(⟨#[46]⟩:ByteArray)=aA [46]:=rfl
theorem ahZ (m:List UInt8):m.length≤pO kR m:=by
 induction m with
 |nil=>simp
 |cons c m ih=>
  rw[kO,List.length_cons];have:1≤kR c:=by unfold kR;split<;>omega
  omega
theorem PZ (s:List UInt8) (w:World) (hW:Laid w) (hs:s.length≤5000000):Calls Tryz.prog 210 #[.string (aA s)] w fun e w'=>Hc (nP fQ s) w e w':=by
 have K5:=rX.fresh w;have sV:Below w.heap.size w (w.alloc (.cells #[.pointer none,.slice none 0 0] 65)):=(Below.refl _ _).alloc (Nat.le_refl _) _;have ID:=hid K5;have UA:=hid sV;have HW:=hid hW;have HD:Hid (nP fQ s=if(dC (dM s)).any fun c=>(lF c).2==0 then none else(eJ fQ (fZ 46 (rC (dC (dM s))))).map (vS 46)):=hid rfl;have HDW:=hid (fun t (h:nP fQ s=some t)=>BM h);have Ar:=BK _ s (Nat.le_refl _);have tE:=Jk _ (dM s) (Nat.le_refl _);have xI:=hid (DV _ (dM s) (Nat.le_refl _));have HS:=hid (fun W hW=>I1 s W hW (by omega));have htn:=WX (dC (dM s));generalize dC (dM s)=l at*;have Uh:l.length≤15000000:=by omega
 have QQ:=hid hs;clear K5 sV hW Ar tE;go_enter Tryz.func210,Tryz.ntmps210;go_wp2_with fail;refine(HS.out _ (HW.out.step UA.out)).mono ?_;rintro e w1 ⟨v,rfl,hr,eN⟩;have Cm:=aR UA eN;have anY:=hid (rO ID.out eN);obtain⟨A,c,rfl,hc⟩:=hr.read.len;have SC:=hid (hr.mono UA.out.size);have Cn:=eN.size;clear hr eN;go_wp2_with fail;go_loopw [17] (fun i wr=>∃(k:Nat) (out:List UInt8),i= .int .i64 (k:Int)∧k≤l.length∧rX wr w.heap.size w.heap.size out∧Hid (rC l=out++rC (l.drop k)∧(l.any fun c=>(lF c).2==0)=(l.drop k).any fun c=>(lF c).2==0)∧Hid (Below w.heap.size w wr∧pA wr w.heap.size (.slice A l.length c) l)) (fun i _=>l.length - (intOf i).toNat);case atStart=>exact⟨0,[],rfl,Nat.zero_le _,anY.out,hid ⟨by simp,by simp⟩,hid ⟨Cm.out,SC.out⟩⟩
 case round=>
  obtain⟨k,out,rfl,hk,kZ,hF,HX⟩:=hrel;have jO:=hid kZ;have rB:=HX.out.1.size;have hol:out.length≤300000000:=by have:=congrArg List.length hF.out.1;rw[List.length_append] at this;omega
  clear kZ;by_cases bC:k < l.length
  ·obtain⟨g,off,c',he,_,aW⟩:=HX.out.2.read.form (by intro e;rw[e] at bC;simp at bC);injection he with aB JM he3;subst aB he3;replace aW:wr.cell? ⟨g,off+k,none⟩=some (.int .i64 ((l[k]'bC:Nat):Int)):=aW k bC;clear JM;obtain⟨f1,f2⟩:=hF.out;rw[List.drop_eq_getElem_cons bC] at f1 f2;rw[S6] at f1;rw[List.any_cons] at f2;have HM:=hid (fun W=>Ou (l[k]'bC) (xI.out l[k] (List.getElem_mem bC)) W);have TY:=PY (l[k]'bC);obtain⟨x,hx⟩:∃x,x=l[k]'bC:=⟨_,rfl⟩;rw[←hx] at aW f1 f2 HM TY;clear hx;unfold Iu at HM;have HAR:=hid (And.intro Uh (And.intro hol TY));clear hs htn hol TY Cn;by_cases hz:(lF x).2=0;·have HN:Hid (nP fQ s=none):=hid (by rw[HD.out,f2,hz];rfl);rw[hz] at HM;clear f1 f2 hF hz;generalize (lF x).1=ms at*;go_wp2_with fail;refine(HM.out _).mono ?_;rintro e w3 ⟨rfl,cF⟩;have vC:=hid (HX.out.1.trans (cF.mono rB));clear cF;go_wp2_with fail;go_ret2;exact mQ (x:=[]) HN.out rfl vC.out
   ·have vN:((lF x).2==0)=false:=by simpa using hz
    rw[vN,Bool.false_or] at f2;have HF:Hid (rC l=(out++(lF x).1)++rC (l.drop (k+1))∧(l.any fun c=>(lF c).2==0)=(l.drop (k+1)).any fun c=>(lF c).2==0):=hid ⟨by rw[f1];simp,f2⟩;have hzI:(((lF x).2:Int)==0)=false:=by simp;omega
    clear f1 f2 hF hz vN;generalize (lF x).1=ms at*;generalize (lF x).2=mn at*;go_wp2_with fail;refine(HM.out _).mono ?_;rintro e w3 ⟨rfl,cF⟩;have vC:=hid (HX.out.1.trans (cF.mono rB));have Pc:=hid (HX.out.2.below cF);have WY:=hid (rO jO.out cF);clear cF;go_wp2_with fail;refine(Kj w3 w.heap.size w.heap.size out ms WY.out (by have:=HAR.out;omega) vC.out.size).mono ?_;rintro e w4 ⟨rfl,IV,cG,hk4⟩;have HX4:=hid (And.intro (vC.out.trans cG) (Pc.out.keep hk4));have CR:=hid IV;clear cG hk4 IV;go_wp2_with fail;go_roundw;case rel=>exact⟨k+1,out++ms,by go_num,by omega,CR.out,HF,HX4⟩
    case measure=>simp[intOf];omega
  ·obtain rfl:k=l.length:=by omega
   obtain⟨f1,f2⟩:=hF.out;rw[List.drop_length] at f1 f2;have f1':rC l=out:=by rw[f1];simp[rC]
   have f2':(l.any fun c=>(lF c).2==0)=false:=by rw[f2];rfl
   have HDD:Hid (nP fQ s=(eJ fQ (fZ 46 out)).map (vS 46)):=hid (by rw[HD.out,f2',f1'];rfl);have oN:=ZP 46 out;have HCP:=hid (S5 46 out);clear f1 f2 hF f1' f2';go_wp2_with fail;refine(S7 wr w.heap.size w.heap.size out jO.out rB).mono ?_;rintro e w5 ⟨rfl,aM⟩;have iI:=hid (HX.out.1.trans aM);clear aM;go_wp2_with fail;rw[UF];refine(IK out 46 (by omega) w5 (HW.out.step iI.out)).mono ?_;rintro e w6 ⟨rfl,rfl⟩;have ho6:=fN.lit w5 ((fZ 46 out).map aA) (by rw[List.length_map];omega);have fH:=xB w5 (.cells (((fZ 46 out).map aA).map Value.string).toArray 9);generalize w5.alloc (.cells (((fZ 46 out).map aA).map Value.string).toArray 9)=w6 at*;rw[List.length_map] at ho6;generalize fZ 46 out=L at*;have HO6:=hid ho6;have Ef:=aR iI fH;have HX6:=hid fH;have nH:=iI.out.size;have hs6:=fH.size;clear ho6 fH;have HAR:=hid (And.intro Uh (And.intro hol oN));have HSS:=hid (And.intro nH hs6);have hLl:L.length≤300000001:=by omega
   clear hs htn Uh Cn hol hk bC oN rB nH hs6;go_wp2_with fail;have nH:=HSS.out.1;go_loopw [35] (fun i wq=>∃(j:Nat) (R:List (List UInt8)),i= .int .i64 (j:Int)∧j≤L.length∧R.length=j∧Hid (fN wq w5.heap.size (.slice (some ⟨w5.heap.size,0,none⟩) L.length L.length) ((R++L.drop j).map aA))∧Hid (eJ fQ L=(eJ fQ (L.drop j)).map (R++ ·))∧Hid (Below w5.heap.size w5 wq)) (fun i _=>L.length - (intOf i).toNat);case atStart=>exact⟨0,[],rfl,Nat.zero_le _,rfl,hid (by simpa using HO6.out),hid (by simp),HX6⟩
   case round=>
    obtain⟨j,R,rfl,hj,hR,HO,HF,HX7⟩:=hrel;have HRl:=hid hR;clear hR;have hs7:=HX7.out.size;by_cases hjl:j < L.length
    ·have hlen:((R++L.drop j).map aA).length=L.length:=by rw[List.length_map,List.length_append,List.length_drop,HRl.out];omega
     have hce:=World.ownsRow.cellAt (n:=L.length) (by have:=HO.out;unfold fN at this;rw[hlen] at this;exact this) j (by omega);have hpj:(((R++L.drop j).map aA).map Value.string)[j]? =some (.string (aA L[j])):=by rw[List.getElem?_map,List.getElem?_map,List.getElem?_append_right (by rw[HRl.out];omega),HRl.out,Nat.sub_self,List.getElem?_drop,Nat.add_zero,List.getElem?_eq_getElem hjl];rfl
     rw[hpj] at hce;have alH:w5.heap.size < wr.heap.size:=by
      rcases Nat.lt_or_ge w5.heap.size wr.heap.size with bC|An;·exact bC
      ·simp[World.cell?,Array.getElem?_eq_none An] at hce
     have Fk:=World.ownsRow.frozenAt (n:=L.length) (by have:=HO.out;unfold fN at this;rw[hlen] at this;exact this) j;have DO:=hid (fun W (hb:Below w.heap.size w W)=>M6 L[j] W (HW.out.step hb) (by have:=HCP.out L[j] (List.getElem_mem hjl);have:=HAR.out;omega));have AD:=bU iI HX7.out nH;have aT:=HF.out;rw[List.drop_eq_getElem_cons hjl] at aT;have rF:=hid (fun W (hW:fN W w5.heap.size (.slice (some ⟨w5.heap.size,0,none⟩) L.length L.length) ((R++L.drop j).map aA)) (t:List UInt8)=>(show fN (W.setCell ⟨w5.heap.size,j,none⟩ (.string (aA t))) w5.heap.size (.slice (some ⟨w5.heap.size,0,none⟩) L.length L.length) (((R++[t])++L.drop (j+1)).map aA) from by
      have hW':=hW;rw[←hlen] at hW';have h2:=fN.stored (j:=j) hW' (aA t);rw[hlen] at h2;have h3:((R++L.drop j).map aA).set j (aA t)=((R++[t])++L.drop (j+1)).map aA:=by rw[List.drop_eq_getElem_cons hjl,List.map_append,List.set_append_right _ _ (by rw[List.length_map,HRl.out];omega),List.length_map,HRl.out,Nat.sub_self,List.map_cons,List.set_cons_zero];simp only[List.map_append,List.map_cons,List.map_nil,List.append_assoc,List.cons_append,List.nil_append]
      rwa[h3] at h2))
     generalize L[j]=p at*;have HCE:=hid hce;have HFR:=hid Fk;clear hpj hlen Fk;cases Wg:fB fQ p with
     |none=>have HN:Hid (nP fQ s=none):=hid (by rw[HDD.out,aT,GR Wg];rfl);rw[Wg] at DO;clear aT Wg;go_wp2_with fail;refine(DO.out _ AD.out).mono ?_;rintro e w8 ⟨⟨x,rfl,_⟩,rA⟩;have G6:=aR AD rA;clear rA;simp only[Option.isSome_none];go_wp2_with fail;go_ret2;exact mQ (x:=[]) HN.out rfl G6.out
     |some t=>
      rw[GQ Wg] at aT;rw[Wg] at DO;have sH:Hid (eJ fQ L=(eJ fQ (L.drop (j+1))).map ((R++[t])++ ·)):=hid (by
       rw[aT,Option.map_map];congr 1;funext x;simp)
      clear aT Wg;go_wp2_with fail;refine(DO.out _ AD.out).mono ?_;rintro e w8 ⟨⟨x,rfl,hx⟩,rA⟩;obtain rfl:=hx t rfl;have HX8:=bU HX7 rA hs7;have Kl:=hid (show fN w8 w5.heap.size (.slice (some ⟨w5.heap.size,0,none⟩) L.length L.length) ((R++L.drop j).map aA) from HO.out.below rA);have hc8:w8.cell? ⟨w5.heap.size,j,none⟩=some (.string (aA p)):=(rA.cell (p:=⟨w5.heap.size,j,none⟩) alH).trans HCE.out;have MP:w8.frozen? ⟨w5.heap.size,j,none⟩=false:=(rA.frozen (p:=⟨w5.heap.size,j,none⟩) alH).trans HFR.out;clear rA hx hce;simp only[Option.isSome_some];go_wp2_with fail;go_roundw;case rel=>exact⟨j+1,R++[x],by go_num,by omega,by simp[HRl.out],hid (rF.out w8 Kl.out x),sH,hid (HX8.out.setCell (p:=⟨w5.heap.size,j,none⟩) (Nat.le_refl _) _)⟩
      case measure=>simp[intOf];omega
    ·obtain rfl:j=L.length:=by omega
     have aT:=HF.out;rw[List.drop_length] at aT;have hWA:eJ fQ L=some R:=by rw[aT];simp[eJ]
     have hN:nP fQ s=some (vS 46 R):=by rw[HDD.out,hWA];rfl
     have hwt:=HDW.out _ hN;have hs0:=QQ.out;have hjw:=ahZ (vS 46 R);have HN:=hid hN;have AD:=bU iI HX7.out nH;have hro:bT wr (.slice (some ⟨w5.heap.size,0,none⟩) L.length L.length) (R.map aA):=by have:=HO.out.read;rwa[List.drop_length,List.append_nil] at this
     have HJ:=hid (V7 _ R 46 wr hro (by rw[HRl.out];have:=HAR.out;omega) (by omega));clear aT hWA hN hro hwt hjw hs0;go_wp2_with fail;rw[UF];refine HJ.out.mono ?_;rintro e w9 ⟨rfl,sJ⟩;have wM:=aR AD sJ;clear sJ;go_wp2_with fail;go_ret2;exact uG HN.out rfl wM.out
end Go.Proofs.YtmgmclkplepapaaGreatDoor
