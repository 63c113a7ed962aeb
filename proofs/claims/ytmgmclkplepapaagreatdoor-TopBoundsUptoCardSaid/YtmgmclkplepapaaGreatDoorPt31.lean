/- Part of the proof of TopBoundsUptoCardSaid. Conditions: none beyond the statement. -/
import Derived.Shelf.Bytes.SlCountOne
import Derived.Lib.SlBuf
import Derived.Test.YtmgmclkplepapaaGreatDoorPt29
set_option linter.all false
set_option maxRecDepth 100000
set_option maxHeartbeats 64000000
namespace Go.Proofs.YtmgmclkplepapaaGreatDoor
open Go.RowKit
theorem eR.DV {w:World} {v:Value} {l:List UInt8} (h:eR w v l):∃p c,v= .slice p l.length c∧l.length≤c∧c≤maxLen∧(p=none→l=[]∧c=0)∧∀a,p=some a→a.spot=none∧∀i,i < l.length→w.cell? (a.add i)=some (.int .u8 ((Lib.numsL l).getD i 0)):=by
 rcases h with⟨rfl,rfl⟩|⟨g,off,c,rfl,hc,hm,aW⟩;·exact⟨none,0,rfl,Nat.le_refl _,Nat.zero_le _,fun _=>⟨rfl,rfl⟩,(fun a h=>by cases h)⟩
 ·refine⟨some ⟨g,off,none⟩,c,rfl,hc,hm,(fun h=>by cases h),fun a h=>?_⟩;obtain rfl:(⟨g,off,none⟩:Addr)=a:=Option.some.inj h;refine⟨rfl,fun i hi=>?_⟩;rw[show(⟨g,off,none⟩:Addr).add i=⟨g,off+i,none⟩ by unfold Addr.add;split<;>simp_all,aW i hi];simp[Lib.numsL,List.getD,hi]
theorem PR (v:Value) (l:List UInt8) (g d:Nat) (w:World) (h:eR w v l) (h0:w.cell? ⟨g,0,none⟩=some (.int .u8 0)):
 Calls Tryz.prog 119 #[v,.slice (some ⟨g,0,none⟩) 1 d] w fun e w'=>e= .returned (.int .i64 (l.count 0:Nat))∧w=w':=by
 obtain⟨p,c,rfl,hc,hm,hn,ha⟩:=h.DV;have uV:(Extern.BytealgCount.count #[.slice p l.length c,.int .u8 0]).run Tryz.prog w= .ok (.int .i64 (l.count 0:Nat)) w:=by
  cases p with
  |none=>obtain⟨rfl,rfl⟩:=hn rfl;exact Lib.run_countNil w 0 0 0
  |some a=>rw[Lib.run_countAt w a l.length c (Lib.numsL l) (Lib.numsL_length l) (ha a rfl).2 0,Lib.bytesOf_numsL];rfl
 clear hn ha h;go_enter Tryz.func119,Tryz.ntmps119;go_wp2;rw[run_callFunc_extern Tryz.func158 (by kernel_rfl) (by kernel_rfl) (by kernel_rfl) (e:=Extern.BytealgCount.count) (by kernel_rfl),uV];simp only[Result.andThen];rw[Oper.upon_value];go_wp2;go_ret;exact⟨rfl,rfl⟩
theorem index_one (v:Value) (l:List UInt8) (g d:Nat) (w:World) (h:eR w v l) (hl:l≠[]) (h0:w.cell? ⟨g,0,none⟩=some (.int .u8 0)):
 Calls Tryz.prog 120 #[v,.slice (some ⟨g,0,none⟩) 1 d] w fun e w'=>e= .returned (.int .i64 (Lib.indexByte l 0))∧w=w':=by
 obtain⟨p,c,rfl,hc,hm,hn,ha⟩:=h.DV;cases p with
 |none=>exact absurd (hn rfl).1 hl
 |some a=>refine(Tryz.bytes_Index_one_at a l.length c g 0 d (Lib.numsL l) 0 w (Lib.numsL_length l) (ha a rfl).2 h0).mono ?_;rintro e w' ⟨rfl,rfl⟩;refine⟨?_,rfl⟩;rw[Lib.bytesOf_numsL];rfl
theorem Lq {l:List UInt8} (h:l.count 0=0):eI l=l:=by
 induction l with
 |nil=>rfl
 |cons c t ih=>
  rw[List.count_cons] at h;have hc:c≠0:=by rintro rfl;simp at h
  rw[eI,if_neg hc,ih (by omega)]
theorem S3 {l:List UInt8} (h:l.count 0≠0):∃k:Nat,Lib.indexByte l 0=(k:Int)∧k < l.length∧eI l=l.take k++[0xef,0xbf,0xbd]++eI (l.drop (k+1))∧l.count 0=(l.drop (k+1)).count 0+1:=by
 induction l with
 |nil=>exact absurd rfl h
 |cons c t ih=>
  by_cases hc:c=0;·subst hc;exact⟨0,by simp[Lib.indexByte],by simp,by simp[eI],by simp⟩
  ·rw[List.count_cons] at h;have hb:(c==0)=false:=by simp[hc]
   rw[hb] at h;obtain⟨k,h1,h2,h3,h4⟩:=ih (by simpa using h);refine⟨k+1,?_,by simpa using h2,?_,?_⟩;·unfold Lib.indexByte;simp[hb,h1]
   ·rw[eI,if_neg hc,h3];simp
   ·rw[List.count_cons,hb,List.drop_succ_cons];simpa using h4
theorem WQ (l:List UInt8):(eI l).length=l.length+2*l.count 0:=by
 induction l with
 |nil=>rfl
 |cons c t ih=>
  rw[List.count_cons,eI];by_cases hc:c=0;·subst hc;simp[ih];omega
  ·rw[if_neg hc];simp[ih,hc];omega
theorem S4 {w:World} {v:Value} {l:List UInt8} (h:eR w v l) (hl:l.length≤4000000000):∃v' w',(Builtin.append_ #[25,25] 25 #[.slice none 0 0,v]).run Tryz.prog w= .ok v' w'∧eR w' v' l∧Below w.heap.size w w':=by
 obtain⟨i0,hi,vO,rX,qL⟩:=info_parts zJ;obtain⟨p,c,rfl,hc,hm,hn,ha⟩:=h.DV;cases p with
 |none=>obtain⟨rfl,rfl⟩:=hn rfl;exact⟨.slice none 0 0,w,run_append_owned_none (P:=Tryz.prog) (w:=w) w.heap.size 25 25 5 i0 1 Tryz.underlying25 hi (.slice none 0 0) 0 [] (World.ownsRow_nil _ _ _ _),.inl ⟨rfl,rfl⟩,Below.refl _ _⟩
 |some a=>
  obtain⟨v',w',h1,h2,h3,_⟩:=run_append_own (P:=Tryz.prog) (w:=w) w.heap.size 25 25 5 i0 (.int .u8 0) 1 1 Tryz.underlying25 hi vO rX qL rfl (by decide) (.slice none 0 0) 0 [] (World.ownsRow_nil _ _ _ _) a l.length c (l.map iP) (by simp)
   (fun j u hj=>by
     have KW:j < l.length:=by have:=(List.getElem?_eq_some_iff.1 hj).1;simpa using this
     rw[List.getElem?_map,List.getElem?_eq_getElem KW] at hj
     rw[(ha a rfl).2 j KW,←Option.some.inj hj]
     simp[Lib.numsL,List.getD,KW,iP])
   (fun u hu=>by obtain⟨b,_,rfl⟩:=List.mem_map.1 hu;rfl) (by unfold maxLen;omega) (by omega) (Nat.le_refl _)
  refine⟨v',w',h1,fC.UA (base:=w.heap.size) ?_,(Below.refl _ _).grown h3 (Nat.le_refl _) (fun k hk=>by cases hk)⟩;unfold fC;simpa using h2
theorem wpList_append_run {P:Program} {w:World} {ops:Array Oper} {rest:List Oper} {o:Oper} {a:Act} {Q:Exit→Act→World→Prop} (tK:o.guard=none) (s x:Operand) (t:TypeId)
 (ho:o.op= .call {callee:= .builtin .append,args:= #[s,x],argTypes:= #[t,t]}) (u v:Value) (hs:a.eval s=u) (hx:a.eval x=v) {v':Value} {w':World}
 (hr:(Builtin.append_ #[t,t] o.type #[u,v]).run P w= .ok v' w') (h:wpList P ops Q rest (a.put o.dst v') w'):wpList P ops Q (o::rest) a w:=by
 refine wpList_plain tK fun K hK=>?_;unfold Oper.wp execOp;simp only[ho,resolve,invoke,builtin,Sem.run_bind,Sem.run_pure,Result.andThen_ok,List.map_toArray,List.map_cons,List.map_nil,hs,hx,hr];exact hK _ _ h
def UE (w:World) (h N:Nat) (acc p:List UInt8) (a b:World):Prop:=(Lib.Buf w a h N acc→Lib.Buf w b h N acc)∧(Lib.Buf w a h N (acc++p)→Lib.Buf w b h N (acc++p))
theorem rS (w:World) (h N:Nat) (acc p:List UInt8):N4 (UE w h N acc p) where
 refl _:=⟨id,id⟩
 trans h1 h2:=⟨fun h=>h2.1 (h1.1 h),fun h=>h2.2 (h1.2 h)⟩
theorem PS {w a:World} {h N:Nat} {l:List UInt8} (hb:Lib.Buf w a h N l):Lib.Buf w a.drew h N l:=⟨hb.1.drew,hb.2,hb.3,hb.4,hb.5⟩
theorem WR {w a:World} {h N:Nat} {l p:List UInt8} (hb:Lib.Buf w a h N (l++p)):Lib.Buf w a h N l:=
 ⟨hb.1,hb.2,hb.3,fun j x hx=>hb.4 j x (by rw[List.getElem?_append_left (List.getElem?_eq_some_iff.1 hx).1];exact hx),Nat.le_trans (by rw[List.length_append];omega) hb.5⟩
theorem PT {w W:World} {N:Nat} {acc p:List UInt8} {v:Value} {o:Oper} {a:Act} {K:Act→World→Prop} {Q:Exit→Act→World→Prop} (d s:Operand)
 (ho:o.op= .call {callee:= .builtin .copy,args:= #[d,s],argTypes:= #[25,25]}) (hty:o.type=3) (hd:a.eval d=Lib.tailV w.heap.size N acc.length) (hs:a.eval s=v) (hp:Lib.HoldsBytes w v p) (ahR:acc.length+p.length≤N) (hb:Lib.Buf w W w.heap.size N acc)
 (hK:∀u w',UE w w.heap.size N acc p W w'→(u= .int .i64 (p.length:Int)∧Lib.Buf w w' w.heap.size N (acc++p))→K (a.put o.dst u) w'):o.wp Tryz.prog a W K Q:=by
 obtain⟨w2,hr,dE⟩:=Lib.copy_part (P:=Tryz.prog) w W w.heap.size N acc p v 25 3 5 Tryz.underlying25 (by kernel_rfl) (Nat.le_refl _) hb hp ahR;rw[←hty] at hr;exact Lib.wp_copy_run W d s 25 25 ho _ _ hd hs hr (hK _ _ ⟨fun _=>WR dE,fun _=>dE⟩ ⟨rfl,dE⟩)
theorem ZL (N:Nat) (hN:N≤4000000000) (w:World):∃w',(Instr.makeSlice 25 (.int .i64 (N:Int)) (.int .i64 (N:Int))).run Tryz.prog w= .ok (.slice (some ⟨w.heap.size,0,none⟩) N N) w'∧Lib.Buf w w' w.heap.size N []:=by obtain⟨i0,hi,vO,rX,qL⟩:=info_parts zJ;have h:=run_make (P:=Tryz.prog) w 25 5 i0 (.int .u8 0) Tryz.underlying25 hi vO .i64 .i64 (N:Int) (N:Int) (by omega) (by omega) (by rw[qL];omega) (by omega);rw[rX] at h;refine⟨_,by simpa using h,?_⟩;exact Lib.Buf.start w (madeCells (Value.int .u8 0).cells N) 5 N 0 (by simp[madeCells])
theorem ZM {w w':World} {h N:Nat} {l:List UInt8} (hb:Lib.Buf w w' h N l) (hN:N=l.length) (hm:N≤maxLen):eR w' (.slice (some ⟨h,0,none⟩) N N) l:=by subst hN;refine .inr ⟨h,0,_,rfl,Nat.le_refl _,hm,fun j hj=>?_⟩;rw[Nat.zero_add];exact hb.holds j _ (List.getElem?_eq_getElem hj)
theorem wrap_small {x:Int} (h0:0≤x) (h1:x≤9000000000000000000):IntKind.i64.wrap x=x:=by rw[IntKind.wrap_i64];omega
theorem By:Tryz.prog.elem 25=5:=by simp[Program.elem,Tryz.underlying25]
theorem Jj (g off n c k:Nat) (h1:k≤n) (hk:k < c) (W:World):(Instr.slice 25 (.slice (some ⟨g,off,none⟩) n c) (some (.int .i64 (k:Int))) none none).run Tryz.prog W= .ok (.slice (some ⟨g,off+k,none⟩) (n - k) (c - k)) W:=by rw[run_slice_l W 25 _ _ _ (by rw[By];exact Tryz.underlying25) .i64 _ (by omega) (by omega),By,Tryz.sizeOf5];simp[Result.andThen,sliced,Addr.add,show¬c=k by omega]
theorem ZN (g off n c k j:Nat) (h1:k≤j) (h2:j≤c) (hk:k < c) (W:World):(Instr.slice 25 (.slice (some ⟨g,off,none⟩) n c) (some (.int .i64 (k:Int))) (some (.int .i64 (j:Int))) none).run Tryz.prog W= .ok (.slice (some ⟨g,off+k,none⟩) (j - k) (c - k)) W:=by rw[run_slice_lh W 25 _ _ _ (by rw[By];exact Tryz.underlying25) .i64 .i64 _ _ (by omega) (by omega) (by omega),By,Tryz.sizeOf5];simp[Result.andThen,sliced,Addr.add,show¬c=k by omega]
theorem CV (h N k:Nat) (hk:k≤N) (W:World):(Instr.slice 25 (.slice (some ⟨h,0,none⟩) N N) (some (.int .i64 (k:Int))) none none).run Tryz.prog W= .ok (Lib.tailV h N k) W:=Lib.run_slice_tailV W 25 5 Tryz.underlying25 Tryz.sizeOf5 h N k hk
theorem Jk {w:World} {g off c:Nat} {l:List UInt8} (h:eR w (.slice (some ⟨g,off,none⟩) l.length c) l) (k n:Nat) (hn:k+n≤l.length):Lib.HoldsBytes w (.slice (some ⟨g,off+k,none⟩) n (c - k)) ((l.drop k).take n):=by
 have hlen:((l.drop k).take n).length=n:=by simp;omega
 refine⟨_,c - k,by rw[hlen],(fun h=>by cases h),fun a ha i x hx=>?_⟩;obtain rfl:(⟨g,off+k,none⟩:Addr)=a:=Option.some.inj ha;rcases h with⟨h1,_⟩|⟨g',Yk,c',h1,_,_,aW⟩;·cases h1
 ·injection h1 with h2 _ _;injection h2 with h2;injection h2 with h2 h3 _;subst h2 h3;have hi:i < n:=by have:=(List.getElem?_eq_some_iff.1 hx).1;omega
  have Um:k+i < l.length:=by omega
  rw[List.getElem?_take_of_lt hi,List.getElem?_drop,List.getElem?_eq_getElem Um] at hx;rw[show(⟨g,off+k,none⟩:Addr).add i=⟨g,off+(k+i),none⟩ by unfold Addr.add;split<;>simp_all<;>omega,aW (k+i) Um,Option.some.inj hx]
theorem WS {w:World} {g off c k:Nat} {l:List UInt8} (h:eR w (.slice (some ⟨g,off,none⟩) l.length c) l) (hk:k≤l.length) (hc:l.length≤c):∃p,(∀W,(Instr.slice 25 (.slice (some ⟨g,off,none⟩) l.length c) (some (.int .i64 (k:Int))) none none).run Tryz.prog W= .ok (.slice p (l.length - k) (c - k)) W)∧Lib.HoldsBytes w (.slice p (l.length - k) (c - k)) (l.drop k):=by
 by_cases hl:k < l.length;·refine⟨_,Jj g off l.length c k hk (by omega),?_⟩;have:=Jk h k (l.length - k) (by omega);rwa[List.take_of_length_le (by rw[List.length_drop];omega)] at this
 ·obtain rfl:k=l.length:=by omega
  refine⟨if c=l.length then some ⟨g,off,none⟩ else(some ⟨g,off,none⟩:Option Addr).map (·.add (l.length*1)),fun W=>?_,_,_,by rw[List.drop_length,List.length_nil,Nat.sub_self],fun _=>List.drop_length,fun a _ i x hx=>by rw[List.drop_length] at hx;simp at hx⟩;rw[run_slice_l W 25 _ _ _ (by rw[By];exact Tryz.underlying25) .i64 _ (by omega) (by omega),By,Tryz.sizeOf5];simp[Result.andThen,sliced]
theorem WT (h N:Nat) (W:World):(Instr.slice 25 (.slice (some ⟨h,0,none⟩) N N) (some (.int .i64 0)) (some (.int .i64 (N:Int))) none).run Tryz.prog W= .ok (.slice (some ⟨h,0,none⟩) N N) W:=by rw[run_slice_lh W 25 _ _ _ (by rw[By];exact Tryz.underlying25) .i64 .i64 _ _ (by omega) (by omega) (by omega),By,Tryz.sizeOf5];simp[Result.andThen,sliced,Addr.add]
theorem WU {w:World} {g off c k:Nat} {l:List UInt8} (h:eR w (.slice (some ⟨g,off,none⟩) l.length c) l) (hk:k < l.length):eR w (.slice (some ⟨g,off+k,none⟩) (l.length - k) (c - k)) (l.drop k):=by
 rcases h with⟨h1,_⟩|⟨g',Yk,c',h1,hlc,hcm,aW⟩;·cases h1
 ·injection h1 with h2 _ h4;injection h2 with h2;injection h2 with h2 h3 _;subst h2 h3 h4;have:=eR.cut hlc hcm aW (Nat.le_of_lt hk);rwa[List.length_drop] at this
theorem Kv (v:Value) (l:List UInt8) (g d:Nat) (nc:Nat) (nb:Nat) (w:World) (h:eR w v l) (h0:w.cell? ⟨g,0,none⟩=some (.int .u8 0)) (hn:Lib.HoldsBytes w (.slice (some ⟨nb,0,none⟩) 3 nc) [0xef,0xbf,0xbd]) (hl:l.length≤1000000000):
 Calls Tryz.prog 80 #[v,.slice (some ⟨g,0,none⟩) 1 d,.slice (some ⟨nb,0,none⟩) 3 nc,.int .i64 (-1)] w fun e w'=>∃v',e= .returned v'∧eR w' v' (eI l)∧Below w.heap.size w w':=by
 have HV:=hid h;have HN:=hid hn;have HC0:=hid h0;have hCO:=hid (PR v l g d w h h0);have oO:l.count 0≤l.length:=List.count_le_length;have HLN:=hid h.len;by_cases hz:l.count 0=0;·obtain⟨v',w',hr,h1,h2⟩:=S4 h (by omega);have H1:=hid h1;have H2:=hid h2;have HE:=hid (Lq hz);rw[hz] at hCO;obtain⟨A,c,rfl,_,_⟩:=HLN.out;clear h hn h0 h1 h2 oO;go_enter Tryz.func80,Tryz.ntmps80;go_wp2_with fail;refine hCO.out.mono ?_;rintro e w5 ⟨rfl,rfl⟩;go_wp2_with (at_builtin;refine wpList_append_run rfl _ _ 25 rfl _ _ rfl rfl hr ?_);go_ret;exact⟨_,rfl,by rw[HE.out];exact H1.out,H2.out⟩
 ·have eG:l≠[]:=by rintro rfl;exact hz rfl
  obtain⟨gv,off,c,Ef,hlc,hcm,aW⟩:=h.form eG;subst Ef;obtain⟨m,hm⟩:∃m,m=l.count 0:=⟨_,rfl⟩;rw[←hm] at hCO oO hz;obtain⟨N,hN⟩:∃N,N=l.length+2*m:=⟨_,rfl⟩;obtain⟨wm,hmk,alH⟩:=ZL N (by omega) w;have aqG:(Instr.makeSlice 25 (.int .i64 ((l.length:Int)+(m:Int)*2)) (.int .i64 ((l.length:Int)+(m:Int)*2))).run Tryz.prog w= .ok (.slice (some ⟨w.heap.size,0,none⟩) N N) wm:=by rw[←hmk];congr<;>omega
  have HBU:=hid alH;have HM:=hid hm;have HNN:=hid hN;have hm0:((m:Int)==0)=false:=by simp;omega
  have UF:N≤3000000000:=by omega
  clear hm hN hz;clear h hn h0 alH hmk aW HLN;go_enter Tryz.func80,Tryz.ntmps80;go_wp2_with fail;refine hCO.out.mono ?_;rintro e w5 ⟨rfl,rfl⟩;go_wp2_with fail;go_loopg [49,11,12] m (fun gk s49 PU PV wr=>∃(i k:Nat) (acc:List UInt8),gk=m - i∧i≤m∧k≤l.length∧s49= .int .i64 (i:Int)∧PU= .int .i64 (acc.length:Int)∧PV= .int .i64 (k:Int)∧acc.length=k+2*i∧Hid (Lib.Buf w wr w.heap.size N acc)∧Hid (eI l=acc++eI (l.drop k))∧Hid ((l.drop k).count 0=m - i));case atStart=>exact⟨0,0,[],rfl,Nat.zero_le _,Nat.zero_le _,rfl,rfl,rfl,rfl,HBU,hid rfl,hid HM.out.symm⟩
  case round=>
   obtain⟨i,k,acc,rfl,him,mE,rfl,rfl,rfl,hal,HB,HR,HC⟩:=hrel;obtain⟨hN1,hN2⟩:N≤l.length+2*m∧l.length+2*m≤N:=by have:=HNN.out;omega
   obtain⟨ha1,ha2⟩:acc.length≤k+2*i∧k+2*i≤acc.length:=by omega
   clear hal;by_cases bC:i < m
   ·have hcz:(l.drop k).count 0≠0:=by rw[HC.out];omega
    obtain⟨j,XU,Q6,hj3,hj4⟩:=S3 hcz;rw[List.length_drop] at Q6;obtain⟨q,hq⟩:∃q,q=k+j:=⟨_,rfl⟩;have Co:=Jj gv off l.length c k (by omega) (by omega);have We:=ZN gv off l.length c k q (by omega) (by omega) (by omega);have hs3:=CV w.heap.size N acc.length (by omega);have hs4:=CV w.heap.size N (acc.length+j) (by omega);rw[show q - k=j by omega,show((q:Nat):Int)=(k:Int)+(j:Int) by omega] at We;rw[show((acc.length+j:Nat):Int)=(acc.length:Int)+(j:Int) by omega] at hs4;have HIX:=hid (index_one _ (l.drop k) g d wr (WU (HV.out.below HB.out.below) (by omega)) (by intro h0;rw[h0] at hcz;exact hcz rfl) ((HB.out.below.cell (by exact World.block_lt_of_cell? w _ HC0.out)).trans HC0.out));rw[XU] at HIX;have hpa:=Jk HV.out k j (by omega);have FW:((l.drop k).take j).length=j:=by simp;omega
    have ZO:=hid hpa;have HJ3:=hid hj3;have HJ4:=hid hj4;clear hpa hj3 hj4 hcz XU;have vB:(i:Int) < (m:Int):=by omega
    go_wp2_with fail;refine HIX.out.mono ?_;rintro e w5 ⟨rfl,rfl⟩;go_wp2_with fail;apply kH (UE w w.heap.size N acc ((l.drop k).take j)) [.val _,.val _,.val _,.val _,.val _,.val _,.val _,.val _,.any (fun v W=>v= .int .i64 (j:Int)∧Lib.Buf w W w.heap.size N (acc++(l.drop k).take j)),.val (.int .i64 ((acc.length:Int)+(j:Int)))] 10 _ rfl rfl rfl (by kernel_rfl) (by kernel_rfl) (by kernel_rfl) (rS _ _ _ _ _);simp only[List.take_succ_cons,List.take_zero]
    iterate 8 (apply aS.val; ·rfl
               ·intro W hW hF K hK;go_simp;exact hK _ ((rS _ _ _ _ _).refl _)
               simp only[pq])
    apply aS.any rfl rfl (fun v w1 w2 h hs=>⟨h.1,hs.2 h.2⟩);·intro W hW hF K hK;exact PT _ _ rfl rfl rfl rfl ZO.out (by rw[FW];omega) (hW.1 (PS HB.out)) (by rw[FW];exact hK)
    intro u;simp only[pq];apply aS.val; ·rfl
    ·intro W hW hF K hK;obtain⟨rfl,hB2⟩:=hF.1 (by rfl);have Gt:=hK _ ((rS _ _ _ _ _).refl W);clear hB2 hF hW hK;have Wh:IntKind.i64.wrap ((acc.length:Int)+(j:Int))=(acc.length:Int)+(j:Int):=wrap_small (by omega) (by omega);go_simp;exact Gt
    simp only[pq];refine aS.nil ?_;intro w8 rB hF8;have Ha:=hid hF8.1.2;clear hF8 rB;have adO:(acc++(l.drop k).take j).length=acc.length+j:=by rw[List.length_append,FW]
    obtain⟨w9,hr9,B9⟩:=Lib.copy_part (P:=Tryz.prog) w w8 w.heap.size N (acc++(l.drop k).take j) [0xef,0xbf,0xbd] _ 25 3 5 Tryz.underlying25 (by kernel_rfl) (Nat.le_refl _) Ha.out HN.out (by rw[adO];simp;omega);rw[adO] at hr9;have wN:=hid B9;clear B9;go_simp;go_wp2_with (at_builtin;refine Lib.wpList_copy_run _ rfl _ _ 25 25 rfl _ _ rfl rfl hr9 ?_);go_roundg (m - (i+1));case measure=>omega
    case rel=>
     have h3:=HJ3.out;have h4:=HJ4.out;rw[List.drop_drop] at h3 h4;refine⟨i+1,k+(j+1),acc++(l.drop k).take j++[0xef,0xbf,0xbd],rfl,by omega,by omega,by go_num,by rw[List.length_append,adO];go_num,by go_num,by rw[List.length_append,adO];simp;omega,wN,hid ?_,hid ?_⟩;·rw[HR.out,h3];simp[List.append_assoc]
     ·have:=HC.out;omega
   ·obtain rfl:i=m:=by omega
    have hc0:(l.drop k).count 0=0:=by rw[HC.out];omega
    have hre:=Lq hc0;have Lr:=hid (HR.out.trans (by rw[hre]):eI l=acc++l.drop k);have vB:¬((i:Int) < (i:Int)):=by omega
    obtain⟨p,Co,hp⟩:=WS HV.out mE hlc;have hs3:=CV w.heap.size N acc.length (by omega);have FW:(l.drop k).length=l.length - k:=List.length_drop;obtain⟨r,hr⟩:∃r,r=l.length - k:=⟨_,rfl⟩;rw[←hr] at Co hp FW;have hs4:=WT w.heap.size N;rw[show(N:Int)=(acc.length:Int)+(r:Int) by omega] at hs4;have Wh:IntKind.i64.wrap ((acc.length:Int)+(r:Int))=(acc.length:Int)+(r:Int):=wrap_small (by omega) (by omega);have HNR:=hid (show N=acc.length+r by omega);clear hr;have ZO:=hid hp;clear hp hre hc0;go_wp2_with fail;apply kH (UE w w.heap.size N acc (l.drop k)) [.val _,.val _,.val _,.val _,.val _,.val _,.val _,.any (fun v W=>v= .int .i64 (r:Int)∧Lib.Buf w W w.heap.size N (acc++l.drop k)),.val (.int .i64 ((acc.length:Int)+(r:Int)))] 9 _ rfl rfl rfl (by kernel_rfl) (by kernel_rfl) (by kernel_rfl) (rS _ _ _ _ _);simp only[List.take_succ_cons,List.take_zero]
    iterate 7 (apply aS.val; ·rfl
               ·intro W hW hF K hK;go_simp;exact hK _ ((rS _ _ _ _ _).refl _)
               simp only[pq])
    apply aS.any rfl rfl (fun v w1 w2 h hs=>⟨h.1,hs.2 h.2⟩);·intro W hW hF K hK;exact PT _ _ rfl rfl rfl rfl ZO.out (by rw[FW,HNR.out];exact Nat.le_refl _) (hW.1 (PS HB.out)) (by rw[FW];exact hK)
    intro u;simp only[pq];apply aS.val; ·rfl
    ·intro W hW hF K hK;obtain⟨rfl,hB2⟩:=hF.1 (by rfl);have Gt:=hK _ ((rS _ _ _ _ _).refl W);clear hB2 hF hW hK;go_simp;exact Gt
    simp only[pq];refine aS.nil ?_;intro w8 rB hF8;have Ha:=hid hF8.1.2;clear hF8 rB;go_simp;go_wp2_with fail;go_ret;refine⟨_,rfl,?_,Ha.out.below⟩;rw[Lr.out];exact ZM Ha.out (by rw[List.length_append,FW];exact HNR.out) (by unfold maxLen;omega)
theorem PW (v:Value) (l:List UInt8) (g d:Nat) (nc:Nat) (nb:Nat) (w:World) (h:eR w v l) (h0:w.cell? ⟨g,0,none⟩=some (.int .u8 0)) (hn:Lib.HoldsBytes w (.slice (some ⟨nb,0,none⟩) 3 nc) [0xef,0xbf,0xbd]) (hl:l.length≤1000000000):
 Calls Tryz.prog 45 #[v,.slice (some ⟨g,0,none⟩) 1 d,.slice (some ⟨nb,0,none⟩) 3 nc] w fun e w'=>∃v',e= .returned v'∧eR w' v' (eI l)∧Below w.heap.size w w':=by
 have H:=hid (Kv v l g d nc nb w h h0 hn hl);obtain⟨A,c,rfl,_,_⟩:=h.len;clear h h0 hn;go_enter Tryz.func45,Tryz.ntmps45;go_wp2_with fail;refine H.out.mono ?_;rintro e w' ⟨v',rfl,h1,h2⟩;go_wp2_with fail;go_ret;exact⟨v',rfl,h1,h2⟩
def eD (l:List UInt8):List UInt8:=pN (dM (eI l))
theorem ZP:kQ 65533=[0xef,0xbf,0xbd]:=by decide+kernel
theorem PX (v:Value) (l:List UInt8) (w:World) (hW:Laid w) (h:eR w v l) (hl:l.length≤100000000):Calls Tryz.prog 21 #[v] w fun e w'=>e= .returned (.string (aA (eD l)))∧Below w.heap.size w w':=by
 have HW:=hid hW;have HV:=hid h;have Ut:=Eo _ l (Nat.le_refl _);have UC:(eI l).length≤3*l.length:=by rw[WQ];have:l.count 0≤l.length:=List.count_le_length;omega
 obtain⟨A,c,rfl,_,_⟩:=h.len;have HS:=hid (fun W=>iZ 65533 (by unfold eA;decide) W);have HD:=hid (fun v W hW h=>FZ v (eI l) W hW h (by omega));have HE:=hid (fun W=>Kr (aA (dM (eI l))) W (by rw[aD];omega));rw[ZP] at HS;clear h hW;go_enter Tryz.func21,Tryz.ntmps21;go_wp2_with fail;have eN:Below w.heap.size w (w.alloc (.cells #[.int .u8 0] 5)):=(Below.refl _ _).alloc (Nat.le_refl _) _;have Od:(w.alloc (.cells #[.int .u8 0] 5)).cell? ⟨w.heap.size,0,none⟩=some (.int .u8 0):=by rw[World.cell?_alloc_mark w #[.int .u8 0] 5 (0,0) 0];rfl
 have HV1:=hid (HV.out.below eN);have HW1:=hid (HW.out.step eN);have Cn:=hid eN;clear eN;generalize w.alloc (.cells #[.int .u8 0] 5)=w1 at*;refine(HS.out _).mono ?_;rintro e w' ⟨rfl,rfl⟩;have G3:=run_bytes_of_string (P:=Tryz.prog) w1 9 25 5 (aA [0xef,0xbf,0xbd]) Tryz.underlying9 Tryz.underlying25 Tryz.underlying5;have Ks:=I1 (aA [0xef,0xbf,0xbd]) w1;rw[aC] at Ks;have SI:=Ks.resolve_right (by rw[aD];unfold maxLen;decide);have uE:=Below.made (aA [0xef,0xbf,0xbd]) w1 (grownCap w1 (aA [0xef,0xbf,0xbd]).size 0 5) 5;generalize grownCap w1 (aA [0xef,0xbf,0xbd]).size 0 5=cap at*;obtain⟨w2,JS⟩:∃w2,w2=(w1.alloc (.cells (bytesRow (aA [0xef,0xbf,0xbd]) cap) 5 ((bytesRow (aA [0xef,0xbf,0xbd]) cap).size,(bytesRow (aA [0xef,0xbf,0xbd]) cap).size+1))).drew:=⟨_,rfl⟩;have aqH:(convert 9 25 (.string (aA [0xef,0xbf,0xbd]))).run Tryz.prog w1= .ok (.slice (some ⟨w1.heap.size,0,none⟩) 3 cap) w2:=G3.trans (by rw[JS];rfl);rw[←JS] at SI uE;have HN:=hid (show Lib.HoldsBytes w2 (.slice (some ⟨w1.heap.size,0,none⟩) 3 cap) [0xef,0xbf,0xbd] by
  obtain⟨p,c,h1,h2,h3,h4,h5⟩:=SI.DV;refine⟨p,c,by rw[←h1];rfl,fun h=>absurd (h4 h).1 (by decide),fun a ha i x hx=>?_⟩;have hi:i < 3:=(List.getElem?_eq_some_iff.1 hx).1;rw[(h5 a ha).2 i hi];simp only[Lib.numsL,List.getD,List.getElem?_map,hx];rfl)
 have H2:=hid ((Cn.out.trans (uE.mono Cn.out.size)));have HR:=hid (PW _ l w.heap.size 1 cap w1.heap.size w2 (HV1.out.below uE) ((uE.cell (World.block_lt_of_cell? w1 _ Od)).trans Od) HN.out (by omega));clear G3 Ks SI uE JS Od;go_wp2_with fail;refine HR.out.mono ?_;rintro e w3 ⟨v3,rfl,Fj,cF⟩;replace H2:=aR H2 cF;have HD3:=hid (HD.out v3 w3 (HW.out.step H2.out) Fj);obtain⟨A3,c3,rfl,_,_⟩:=Fj.len;clear Fj cF;go_wp2_with fail;refine HD3.out.mono ?_;rintro e w4 ⟨rfl,cG⟩;replace H2:=aR H2 cG;clear cG;go_wp2_with fail;refine(HE.out _).mono ?_;rintro e w5 ⟨rfl,aM⟩;go_wp2_with fail;go_ret;refine⟨?_,H2.out.trans (aM.mono H2.out.size)⟩;unfold eD;rw[aC];rfl
theorem adP {c:Nat} (h:lJ c=true):eA c:=by unfold lJ at h;simp only[Bool.and_eq_true,Bool.or_eq_true,decide_eq_true_eq] at h;unfold eA;omega
theorem WV {c:Nat} (h:eA c):lJ c=true:=by unfold lJ;simp only[Bool.and_eq_true,Bool.or_eq_true,decide_eq_true_eq];unfold eA at h;omega
theorem F3:∀(n p sign bJ:Nat) (first:Bool) (l:List Nat) (s:List UInt8) (r:List Nat),(∀c∈l,eA c)→qH n p sign bJ first l s=some r→∀c∈r,eA c:=by
 intro n;induction n with
 |zero=>
  intro p sign bJ first l s r hl h
  rw[qH] at h;split at h;·cases h;exact hl
  ·cases h
 |succ n ih=>
  intro p sign bJ first l s r hl h
  rw[qH] at h;split at h;·cases h;exact hl
  split at h;·cases h
  rename_i d k hr;split at h;·cases h
  rename_i wU;refine ih _ _ _ _ _ _ _ (fun c hc=>?_) h;rcases List.mem_append.1 hc with hc|hc;·exact hl c (List.mem_of_mem_take hc)
  ·rcases List.mem_cons.1 hc with rfl|hc
   ·refine adP ?_;cases hs:lJ (sign+(p+d) / (l.length+1)) with
    |true=>rfl
    |false=>exact absurd (.inr hs) wU
   ·exact hl c (List.mem_of_mem_drop hc)
theorem S5 {s:List UInt8} {l:List Nat} (h:fQ s=some l):∀c∈l,eA c:=by
 unfold fQ at h;split at h
 ·split at h;·cases h
  ·refine F3 _ _ _ _ _ _ _ _ (fun c hc=>?_) h;obtain⟨b,_,rfl⟩:=List.mem_map.1 hc;have:=b.toNat_lt;unfold eA;omega
 ·exact F3 _ _ _ _ _ _ _ _ (fun c hc=>by cases hc) h
theorem Jl:∀(n:Nat) (l:List UInt8),l.length≤n→(dC l).length≤l.length:=by
 intro n;induction n with
 |zero=>intro l h;have:l=[]:=List.length_eq_zero_iff.1 (by omega);subst this;simp[mI]
 |succ n ih=>
  intro l h;by_cases h0:l=[];·subst h0;simp[mI]
  ·rw[sN h0,List.length_cons];have h1:=qC l;have h2:=(MR h0).2;have:=ih (l.drop (cH l).2) (by rw[List.length_drop];omega);rw[List.length_drop] at this;omega
theorem WW {l:List UInt8} (h:l≠[]):eA (cH l).1:=by
 by_cases hb:(cH l).1=65533∧(cH l).2=1;·unfold eA;omega
 ·have:=(kC l h _ _ rfl (fun h1 h2=>hb ⟨h1,h2⟩)).ok;unfold eA;omega
theorem DW:∀(n:Nat) (l:List UInt8),l.length≤n→∀c∈dC l,eA c:=by
 intro n;induction n with
 |zero=>intro l h;have:l=[]:=List.length_eq_zero_iff.1 (by omega);subst this;simp[mI]
 |succ n ih=>
  intro l h;by_cases h0:l=[];·subst h0;simp[mI]
  ·rw[sN h0];have h1:=qC l;intro c hc;rcases List.mem_cons.1 hc with rfl|hc;·exact WW h0
   ·exact ih (l.drop (cH l).2) (by rw[List.length_drop];omega) c hc
def Hd (o:Option (List UInt8)) (w:World) (e:Ending) (w':World):Prop:=
 (∃x:List UInt8,e= .returned (.tuple #[.string (aA x),.bool o.isSome])∧∀t,o=some t→x=t)∧Below w.heap.size w w'
theorem mR {o:Option (List UInt8)} {w w':World} {x:List UInt8} {v:Value} (h:o=none) (hv:v= .tuple #[.string (aA x),.bool false]) (hb:Below w.heap.size w w'):Hd o w (.returned v) w':=by subst hv;exact⟨⟨x,by rw[h];rfl,fun t ht=>by rw[h] at ht;cases ht⟩,hb⟩
theorem uH {o:Option (List UInt8)} {w w':World} {x:List UInt8} {v:Value} (h:o=some x) (hv:v= .tuple #[.string (aA x),.bool true]) (hb:Below w.heap.size w w'):Hd o w (.returned v) w':=by subst hv;exact⟨⟨x,by rw[h];rfl,fun t ht=>by rw[h] at ht;cases ht;rfl⟩,hb⟩
theorem PY {D:List UInt8→Option (List Nat)} {s:List UInt8} (h:T3.isPrefixOf s=true):fB D s=if qD s then(match D (s.drop 4) with
 |some l=>if nX l then some s else none
 |none=>none) else none:=by
 unfold fB;rw[if_pos h];by_cases hl:qD s=true;·rw[if_pos hl,if_pos hl];cases D (List.drop 4 s)<;>rfl
 ·rw[if_neg hl,if_neg hl]
theorem M6 {D:List UInt8→Option (List Nat)} {s:List UInt8} (h:T3.isPrefixOf s=false) (hl:qD s=true):fB D s=some s:=by unfold fB;rw[if_neg (by rw[h];decide),if_pos hl]
theorem Kw {D:List UInt8→Option (List Nat)} {s:List UInt8} (h:T3.isPrefixOf s=false) (hl:qD s=false):fB D s=if nX (dC (dM s))&&decide ((dC (dM s)).length≤255) then some (T3++CB (dC (dM s))) else none:=by unfold fB;rw[if_neg (by rw[h];decide),if_neg (by rw[hl];decide)]
theorem ahZ:(⟨#[120,110,45,45]⟩:ByteArray)=aA T3:=rfl
theorem WX (l:List Nat) (h:l.length≤255) (hl:∀c∈l,c≤128511):(CB l).length≤100000:=by
 have h1:=T0 XX l h hl;have h2:(CB l).length≤pP kS (CB l):=by
  have key:∀m:List UInt8,m.length≤pP kS m:=by
   intro m;induction m with
   |nil=>simp
   |cons c m ih=>
    rw[kP,List.length_cons];have:1≤kS c:=by unfold kS;split<;>omega
    omega
  exact key _
 have h3:pP kS (qB l)≤5*(qB l).length:=Q5 _ 5 _ (fun c _=>by unfold kS;split<;>omega);have h4:(qB l).length≤256:=by
  unfold qB;split;·simp
  ·have:=VS l;simp;omega
 have h5:eK l 128≤255:=by have:=yY l;omega
 omega
theorem M7 (s:List UInt8) (w:World) (hW:Laid w) (hs:s.length≤300000000):Calls Tryz.prog 219 #[.string (aA s)] w fun e w'=>Hd (fB fQ s) w e w':=by
 have HL:=hid (fun w=>RS s w (by omega));cases hx:T3.isPrefixOf s;have HC:=hid (fun w=>jY s T3 hx w);cases hl:qD s;have hF:=Kw (D:=fQ) hx hl;rw[hl] at HL;have HS:=hid (I2 s w hW (by omega));have As:=BL _ s (Nat.le_refl _);have tF:=Jl _ (dM s) (Nat.le_refl _);have xJ:=hid (DW _ (dM s) (Nat.le_refl _));generalize dC (dM s)=l at*;have Ui:l.length≤900000000:=by omega
 clear As tF hx hl;cases Fk:nX l;have HF:Hid (fB fQ s=none):=hid (by rw[hF,Fk];rfl);clear hF;have tg:=Tg.k 4;rotate_left;have hle:∀c∈l,c≤128511:=fun c hc=>KM (NM ((KO Fk).1 c hc).1);by_cases Sw:l.length≤255;have HF:Hid (fB fQ s=some (T3++CB l)):=hid (by rw[hF,Fk];simp[Sw]);have HPE:=hid (fun v W (hr:tX W v l)=>OC v l W hr Sw (fun c hc=>⟨hle c hc,WV (xJ.out c hc)⟩));have FW:=WX l Sw hle;have hps:(aA (CB l)).size≤100000:=by rw[aD];exact FW
 have HXA:Hid ((⟨#[120,110,45,45]⟩:ByteArray)++aA (CB l)=aA (T3++CB l)):=hid (by rw[ahZ,←iM]);clear hF hle FW;have tg:=Tg.k 5;rotate_left;have HF:Hid (fB fQ s=none):=hid (by rw[hF,Fk];simp[Sw]);have HPE:=hid (fun v W (hr:tX W v l)=>EN v l W hr (by omega) (by omega));clear hF hle;have tg:=Tg.k 6;rotate_left;have HF:Hid (fB fQ s=some s):=hid (M6 hx hl);rw[hl] at HL;clear hx hl;have tg:=Tg.k 3;rotate_left;have HC:=hid (fun w=>jA s T3 hx w);have hw:=PY (D:=fQ) hx;cases hl:qD s;rw[hl] at HL hw;have HF:Hid (fB fQ s=none):=hid hw;clear hx hw hl;have tg:=Tg.k 0;rotate_left;rw[hl] at HL hw;have HD:=hid (fun w=>PM (s.drop 4) w (by rw[List.length_drop];omega));rcases hd:fQ (s.drop 4) with _|l;rw[hd] at hw HD;have HF:Hid (fB fQ s=none):=hid hw;clear hx hw hl hd;have tg:=Tg.k 1;rotate_left;rw[hd] at hw HD;have xJ:=hid (S5 hd);have HF:Hid (fB fQ s=if nX l then some s else none):=hid hw;clear hx hw hl hd;have tg:=Tg.k 2;all_goals
  go_enter Tryz.func219,Tryz.ntmps219;go_wp2_with fail;refine(HL.out _).mono ?_;rintro e w' ⟨rfl,rfl⟩;go_wp2_with fail;refine(HC.out _).mono ?_;rintro e w' ⟨rfl,rfl⟩;go_wp2_with fail;first
  |(first|have:Tg 1:=tg|have:Tg 2:=tg)
   refine(HD.out _).mono ?_;rintro e w1 ⟨v,rfl,hv,hb⟩;first
   |have:Tg 2:=tg;simp only[Option.isSome_some];obtain⟨hr,afO⟩:=hv l rfl;have HLB:=hid (Iw v l w1 hr (by omega) xJ.out);have HB:=hid hb;obtain⟨A,c,rfl,_⟩:=hr.len;clear hv hr hb;cases Fk:nX l with
    |true=>rw[Fk] at HLB;have sI:Hid (fB fQ s=some s):=hid (by rw[HF.out,Fk];rfl);clear Fk;go_wp2_with fail;refine(HLB.out).mono ?_;rintro e w2 ⟨rfl,dE⟩;go_wp2_with fail;go_ret2;exact uH sI.out rfl (HB.out.trans (dE.mono HB.out.size))
    |false=>rw[Fk] at HLB;have sI:Hid (fB fQ s=none):=hid (by rw[HF.out,Fk];rfl);clear Fk;go_wp2_with fail;refine(HLB.out).mono ?_;rintro e w2 ⟨rfl,dE⟩;go_wp2_with fail;go_ret2;exact mR (x:=s) sI.out rfl (HB.out.trans (dE.mono HB.out.size))
   |simp only[Option.isSome_none];go_wp2_with fail;go_ret2;exact mR (x:=s) HF.out rfl hb
  |(first|have:Tg 0:=tg|have:Tg 3:=tg)
   go_ret2;first
   |have:Tg 0:=tg;exact mR (x:=[]) HF.out rfl (Below.refl _ _)
   |exact uH HF.out rfl (Below.refl _ _)
  |refine(HS.out).mono ?_;rintro e w1 ⟨v,rfl,hr0,hb⟩;have hr:=hr0.read;clear hr0;have HLB:=hid (Iw v l w1 hr (by omega) xJ.out);rw[Fk] at HLB;have HB:=hid hb;first|have:Tg 4:=tg|have HR:=hid hr
   clear hr hb Fk;go_wp2_with fail;refine(HLB.out).mono ?_;rintro e w2 ⟨rfl,dE⟩;first
   |have:Tg 4:=tg
   |have cK:=aR HB dE;have HR2:=hid (HR.out.below dE);clear dE;go_wp2_with fail;refine(HPE.out _ _ HR2.out).mono ?_;first
    |have:Tg 6:=tg;rintro e w' ⟨rfl,rfl⟩;have hps:(aA []).size≤100000:=by rw[aD];simp
    |rintro e w3 ⟨rfl,cF⟩;have vD:=aR cK cF;clear cF
   go_wp2_with fail;go_ret2;first
   |have:Tg 4:=tg;exact mR (x:=[]) HF.out rfl (HB.out.trans (dE.mono HB.out.size))
   |have:Tg 5:=tg;exact uH HF.out (by rw[←HXA.out];rfl) vD.out
   |exact mR (x:=T3) HF.out rfl cK.out
theorem fN.stored {w:World} {base g c j:Nat} {l:List ByteArray} (h:fN w base (.slice (some ⟨g,0,none⟩) l.length c) l) (s:ByteArray):
 fN (w.setCell ⟨g,j,none⟩ (.string s)) base (.slice (some ⟨g,0,none⟩) l.length c) (l.set j s):=by
 have:=(World.ownsRow.stored h j (.string s)).1;unfold fN;rw[List.length_set];simpa[List.map_set] using this
theorem fN.lit (w:World) (l:List ByteArray) (hl:l.length≤4000000000):fN (w.alloc (.cells (l.map Value.string).toArray 9)) w.heap.size (.slice (some ⟨w.heap.size,0,none⟩) l.length l.length) l:=by have:=World.ownsRow_lit (base:=w.heap.size) (e:=9) (size:=1) w (l.map Value.string).toArray l.length (Nat.le_refl _) (by unfold maxLen;omega) (by simp);unfold fN;simpa using this
theorem ZQ (q:UInt8):∀(s:List UInt8),(fZ q s).length≤s.length+1:=by
 intro s;induction s with
 |nil=>simp[fZ]
 |cons c t ih=>
  rw[fZ];split;·simp;omega
  ·split;·simp
   ·rename_i p r hp;rw[hp] at ih;simp at ih⊢;omega
theorem S6 (q:UInt8):∀(s:List UInt8),∀p∈fZ q s,p.length≤s.length:=by
 intro s;induction s with
 |nil=>intro p hp;have:p=[]:=by simpa[fZ] using hp
       subst this;simp
 |cons c t ih=>
  intro p hp;rw[fZ] at hp;split at hp
  ·rcases List.mem_cons.1 hp with rfl|hp;·simp
   ·have:=ih p hp;simp;omega
  ·split at hp
   ·have:p=[c]:=by simpa using hp
    subst this;simp
   ·rename_i a r hr;rcases List.mem_cons.1 hp with rfl|hp;·have:=ih a (by rw[hr];simp);simp;omega
    ·have:=ih p (by rw[hr];simp[hp]);simp;omega
theorem adQ (m:List UInt8):m.length≤pP kR m:=by
 induction m with
 |nil=>simp
 |cons c m ih=>
  rw[kP,List.length_cons];have:1≤kR c:=by unfold kR;(repeat' split)<;>omega
  omega
theorem PZ (c:Nat):(lG c).1.length≤20:=by
 have h1:=T2 c;have h2:=adQ (lG c).1;have h3:(kQ c).length≤4:=by rw[uQ];(repeat' split)<;>omega
 omega
theorem WY (l:List Nat):(rD l).length≤20*l.length:=by
 induction l with
 |nil=>simp[rD]
 |cons c t ih=>have:=PZ c;unfold rD at*;rw[List.flatMap_cons,List.length_append,List.length_cons];omega
theorem S7 (c:Nat) (t:List Nat):rD (c::t)=(lG c).1++rD t:=rfl
theorem GR {D:List UInt8→Option (List Nat)} {p t:List UInt8} {r:List (List UInt8)} (h:fB D p=some t):eJ D (p::r)=(eJ D r).map (t:: ·):=by rw[eJ,h];cases eJ D r<;>rfl
theorem GS {D:List UInt8→Option (List Nat)} {p:List UInt8} {r:List (List UInt8)} (h:fB D p=none):eJ D (p::r)=none:=by rw[eJ,h]
theorem S8 (w:World) (B b:Nat) (l:List UInt8) (h:rY w B b l) (Ie:B≤w.heap.size):
 Calls Tryz.prog 28 #[.pointer (some ⟨b,0,none⟩)] w fun e w'=>e= .returned (.string (aA l))∧Below B w w':=eU w B b l h Ie
theorem UG:(⟨#[46]⟩:ByteArray)=aA [46]:=rfl
theorem aiA (m:List UInt8):m.length≤pP kS m:=by
 induction m with
 |nil=>simp
 |cons c m ih=>
  rw[kP,List.length_cons];have:1≤kS c:=by unfold kS;split<;>omega
  omega
theorem P0 (s:List UInt8) (w:World) (hW:Laid w) (hs:s.length≤5000000):Calls Tryz.prog 210 #[.string (aA s)] w fun e w'=>Hd (nQ fQ s) w e w':=by
 have K6:=rY.fresh w;have sW:Below w.heap.size w (w.alloc (.cells #[.pointer none,.slice none 0 0] 65)):=(Below.refl _ _).alloc (Nat.le_refl _) _;have IE:=hid K6;have UB:=hid sW;have HW:=hid hW;have HD:Hid (nQ fQ s=if(dC (dM s)).any fun c=>(lG c).2==0 then none else(eJ fQ (fZ 46 (rD (dC (dM s))))).map (vT 46)):=hid rfl;have HDW:=hid (fun t (h:nQ fQ s=some t)=>BN h);have As:=BL _ s (Nat.le_refl _);have tF:=Jl _ (dM s) (Nat.le_refl _);have xJ:=hid (DW _ (dM s) (Nat.le_refl _));have HS:=hid (fun W hW=>I2 s W hW (by omega));have htn:=WY (dC (dM s));generalize dC (dM s)=l at*;have Ui:l.length≤15000000:=by omega
 have QR:=hid hs;clear K6 sW hW As tF;go_enter Tryz.func210,Tryz.ntmps210;go_wp2_with fail;refine(HS.out _ (HW.out.step UB.out)).mono ?_;rintro e w1 ⟨v,rfl,hr,eN⟩;have Cn:=aR UB eN;have anZ:=hid (rP IE.out eN);obtain⟨A,c,rfl,hc⟩:=hr.read.len;have SD:=hid (hr.mono UB.out.size);have Co:=eN.size;clear hr eN;go_wp2_with fail;go_loopw [17] (fun i wr=>∃(k:Nat) (out:List UInt8),i= .int .i64 (k:Int)∧k≤l.length∧rY wr w.heap.size w.heap.size out∧Hid (rD l=out++rD (l.drop k)∧(l.any fun c=>(lG c).2==0)=(l.drop k).any fun c=>(lG c).2==0)∧Hid (Below w.heap.size w wr∧pB wr w.heap.size (.slice A l.length c) l)) (fun i _=>l.length - (intOf i).toNat);case atStart=>exact⟨0,[],rfl,Nat.zero_le _,anZ.out,hid ⟨by simp,by simp⟩,hid ⟨Cn.out,SD.out⟩⟩
 case round=>
  obtain⟨k,out,rfl,hk,lA,hF,HX⟩:=hrel;have jP:=hid lA;have rC:=HX.out.1.size;have hol:out.length≤300000000:=by have:=congrArg List.length hF.out.1;rw[List.length_append] at this;omega
  clear lA;by_cases bC:k < l.length
  ·obtain⟨g,off,c',he,_,aW⟩:=HX.out.2.read.form (by intro e;rw[e] at bC;simp at bC);injection he with aB JN he3;subst aB he3;replace aW:wr.cell? ⟨g,off+k,none⟩=some (.int .i64 ((l[k]'bC:Nat):Int)):=aW k bC;clear JN;obtain⟨f1,f2⟩:=hF.out;rw[List.drop_eq_getElem_cons bC] at f1 f2;rw[S7] at f1;rw[List.any_cons] at f2;have HM:=hid (fun W=>Ov (l[k]'bC) (xJ.out l[k] (List.getElem_mem bC)) W);have TZ:=PZ (l[k]'bC);obtain⟨x,hx⟩:∃x,x=l[k]'bC:=⟨_,rfl⟩;rw[←hx] at aW f1 f2 HM TZ;clear hx;unfold Iv at HM;have HAR:=hid (And.intro Ui (And.intro hol TZ));clear hs htn hol TZ Co;by_cases hz:(lG x).2=0;·have HN:Hid (nQ fQ s=none):=hid (by rw[HD.out,f2,hz];rfl);rw[hz] at HM;clear f1 f2 hF hz;generalize (lG x).1=ms at*;go_wp2_with fail;refine(HM.out _).mono ?_;rintro e w3 ⟨rfl,cF⟩;have vD:=hid (HX.out.1.trans (cF.mono rC));clear cF;go_wp2_with fail;go_ret2;exact mR (x:=[]) HN.out rfl vD.out
   ·have vO:((lG x).2==0)=false:=by simpa using hz
    rw[vO,Bool.false_or] at f2;have HF:Hid (rD l=(out++(lG x).1)++rD (l.drop (k+1))∧(l.any fun c=>(lG c).2==0)=(l.drop (k+1)).any fun c=>(lG c).2==0):=hid ⟨by rw[f1];simp,f2⟩;have hzI:(((lG x).2:Int)==0)=false:=by simp;omega
    clear f1 f2 hF hz vO;generalize (lG x).1=ms at*;generalize (lG x).2=mn at*;go_wp2_with fail;refine(HM.out _).mono ?_;rintro e w3 ⟨rfl,cF⟩;have vD:=hid (HX.out.1.trans (cF.mono rC));have Pd:=hid (HX.out.2.below cF);have WZ:=hid (rP jP.out cF);clear cF;go_wp2_with fail;refine(Kk w3 w.heap.size w.heap.size out ms WZ.out (by have:=HAR.out;omega) vD.out.size).mono ?_;rintro e w4 ⟨rfl,IW,cG,hk4⟩;have HX4:=hid (And.intro (vD.out.trans cG) (Pd.out.keep hk4));have CS:=hid IW;clear cG hk4 IW;go_wp2_with fail;go_roundw;case rel=>exact⟨k+1,out++ms,by go_num,by omega,CS.out,HF,HX4⟩
    case measure=>simp[intOf];omega
  ·obtain rfl:k=l.length:=by omega
   obtain⟨f1,f2⟩:=hF.out;rw[List.drop_length] at f1 f2;have f1':rD l=out:=by rw[f1];simp[rD]
   have f2':(l.any fun c=>(lG c).2==0)=false:=by rw[f2];rfl
   have HDD:Hid (nQ fQ s=(eJ fQ (fZ 46 out)).map (vT 46)):=hid (by rw[HD.out,f2',f1'];rfl);have oO:=ZQ 46 out;have HCP:=hid (S6 46 out);clear f1 f2 hF f1' f2';go_wp2_with fail;refine(S8 wr w.heap.size w.heap.size out jP.out rC).mono ?_;rintro e w5 ⟨rfl,aM⟩;have iJ:=hid (HX.out.1.trans aM);clear aM;go_wp2_with fail;rw[UG];refine(IL out 46 (by omega) w5 (HW.out.step iJ.out)).mono ?_;rintro e w6 ⟨rfl,rfl⟩;have ho6:=fN.lit w5 ((fZ 46 out).map aA) (by rw[List.length_map];omega);have fH:=xC w5 (.cells (((fZ 46 out).map aA).map Value.string).toArray 9);generalize w5.alloc (.cells (((fZ 46 out).map aA).map Value.string).toArray 9)=w6 at*;rw[List.length_map] at ho6;generalize fZ 46 out=L at*;have HO6:=hid ho6;have Eg:=aR iJ fH;have HX6:=hid fH;have nI:=iJ.out.size;have hs6:=fH.size;clear ho6 fH;have HAR:=hid (And.intro Ui (And.intro hol oO));have HSS:=hid (And.intro nI hs6);have hLl:L.length≤300000001:=by omega
   clear hs htn Ui Co hol hk bC oO rC nI hs6;go_wp2_with fail;have nI:=HSS.out.1;go_loopw [35] (fun i wq=>∃(j:Nat) (R:List (List UInt8)),i= .int .i64 (j:Int)∧j≤L.length∧R.length=j∧Hid (fN wq w5.heap.size (.slice (some ⟨w5.heap.size,0,none⟩) L.length L.length) ((R++L.drop j).map aA))∧Hid (eJ fQ L=(eJ fQ (L.drop j)).map (R++ ·))∧Hid (Below w5.heap.size w5 wq)) (fun i _=>L.length - (intOf i).toNat);case atStart=>exact⟨0,[],rfl,Nat.zero_le _,rfl,hid (by simpa using HO6.out),hid (by simp),HX6⟩
   case round=>
    obtain⟨j,R,rfl,hj,hR,HO,HF,HX7⟩:=hrel;have HRl:=hid hR;clear hR;have hs7:=HX7.out.size;by_cases hjl:j < L.length
    ·have hlen:((R++L.drop j).map aA).length=L.length:=by rw[List.length_map,List.length_append,List.length_drop,HRl.out];omega
     have hce:=World.ownsRow.cellAt (n:=L.length) (by have:=HO.out;unfold fN at this;rw[hlen] at this;exact this) j (by omega);have hpj:(((R++L.drop j).map aA).map Value.string)[j]? =some (.string (aA L[j])):=by rw[List.getElem?_map,List.getElem?_map,List.getElem?_append_right (by rw[HRl.out];omega),HRl.out,Nat.sub_self,List.getElem?_drop,Nat.add_zero,List.getElem?_eq_getElem hjl];rfl
     rw[hpj] at hce;have alI:w5.heap.size < wr.heap.size:=by
      rcases Nat.lt_or_ge w5.heap.size wr.heap.size with bC|Ao;·exact bC
      ·simp[World.cell?,Array.getElem?_eq_none Ao] at hce
     have Fl:=World.ownsRow.frozenAt (n:=L.length) (by have:=HO.out;unfold fN at this;rw[hlen] at this;exact this) j;have DP:=hid (fun W (hb:Below w.heap.size w W)=>M7 L[j] W (HW.out.step hb) (by have:=HCP.out L[j] (List.getElem_mem hjl);have:=HAR.out;omega));have AE:=bU iJ HX7.out nI;have aT:=HF.out;rw[List.drop_eq_getElem_cons hjl] at aT;have rG:=hid (fun W (hW:fN W w5.heap.size (.slice (some ⟨w5.heap.size,0,none⟩) L.length L.length) ((R++L.drop j).map aA)) (t:List UInt8)=>(show fN (W.setCell ⟨w5.heap.size,j,none⟩ (.string (aA t))) w5.heap.size (.slice (some ⟨w5.heap.size,0,none⟩) L.length L.length) (((R++[t])++L.drop (j+1)).map aA) from by
      have hW':=hW;rw[←hlen] at hW';have h2:=fN.stored (j:=j) hW' (aA t);rw[hlen] at h2;have h3:((R++L.drop j).map aA).set j (aA t)=((R++[t])++L.drop (j+1)).map aA:=by rw[List.drop_eq_getElem_cons hjl,List.map_append,List.set_append_right _ _ (by rw[List.length_map,HRl.out];omega),List.length_map,HRl.out,Nat.sub_self,List.map_cons,List.set_cons_zero];simp only[List.map_append,List.map_cons,List.map_nil,List.append_assoc,List.cons_append,List.nil_append]
      rwa[h3] at h2))
     generalize L[j]=p at*;have HCE:=hid hce;have HFR:=hid Fl;clear hpj hlen Fl;cases Wh:fB fQ p with
     |none=>have HN:Hid (nQ fQ s=none):=hid (by rw[HDD.out,aT,GS Wh];rfl);rw[Wh] at DP;clear aT Wh;go_wp2_with fail;refine(DP.out _ AE.out).mono ?_;rintro e w8 ⟨⟨x,rfl,_⟩,rB⟩;have Ha:=aR AE rB;clear rB;simp only[Option.isSome_none];go_wp2_with fail;go_ret2;exact mR (x:=[]) HN.out rfl Ha.out
     |some t=>
      rw[GR Wh] at aT;rw[Wh] at DP;have sI:Hid (eJ fQ L=(eJ fQ (L.drop (j+1))).map ((R++[t])++ ·)):=hid (by
       rw[aT,Option.map_map];congr 1;funext x;simp)
      clear aT Wh;go_wp2_with fail;refine(DP.out _ AE.out).mono ?_;rintro e w8 ⟨⟨x,rfl,hx⟩,rB⟩;obtain rfl:=hx t rfl;have HX8:=bU HX7 rB hs7;have Km:=hid (show fN w8 w5.heap.size (.slice (some ⟨w5.heap.size,0,none⟩) L.length L.length) ((R++L.drop j).map aA) from HO.out.below rB);have hc8:w8.cell? ⟨w5.heap.size,j,none⟩=some (.string (aA p)):=(rB.cell (p:=⟨w5.heap.size,j,none⟩) alI).trans HCE.out;have MQ:w8.frozen? ⟨w5.heap.size,j,none⟩=false:=(rB.frozen (p:=⟨w5.heap.size,j,none⟩) alI).trans HFR.out;clear rB hx hce;simp only[Option.isSome_some];go_wp2_with fail;go_roundw;case rel=>exact⟨j+1,R++[x],by go_num,by omega,by simp[HRl.out],hid (rG.out w8 Km.out x),sI,hid (HX8.out.setCell (p:=⟨w5.heap.size,j,none⟩) (Nat.le_refl _) _)⟩
      case measure=>simp[intOf];omega
    ·obtain rfl:j=L.length:=by omega
     have aT:=HF.out;rw[List.drop_length] at aT;have hWA:eJ fQ L=some R:=by rw[aT];simp[eJ]
     have hN:nQ fQ s=some (vT 46 R):=by rw[HDD.out,hWA];rfl
     have hwt:=HDW.out _ hN;have hs0:=QR.out;have hjw:=aiA (vT 46 R);have HN:=hid hN;have AE:=bU iJ HX7.out nI;have hro:bT wr (.slice (some ⟨w5.heap.size,0,none⟩) L.length L.length) (R.map aA):=by have:=HO.out.read;rwa[List.drop_length,List.append_nil] at this
     have HJ:=hid (V8 _ R 46 wr hro (by rw[HRl.out];have:=HAR.out;omega) (by omega));clear aT hWA hN hro hwt hjw hs0;go_wp2_with fail;rw[UG];refine HJ.out.mono ?_;rintro e w9 ⟨rfl,sK⟩;have wN:=aR AE sK;clear sK;go_wp2_with fail;go_ret2;exact uH HN.out rfl wN.out
end Go.Proofs.YtmgmclkplepapaaGreatDoor
