/- Part of the proof of TopBoundsUptoCardSaid. Conditions: none beyond the statement. -/
import Derived.Laws.CopyOwn
import Derived.Test.YtmgmclkplepapaaGreatDoorPt26
set_option linter.all false
set_option maxRecDepth 100000
set_option maxHeartbeats 64000000
namespace Go.Proofs.YtmgmclkplepapaaGreatDoor
open Go.RowKit
def fK (p:cU):Array Value:= #[.bool p.hasScheme,.string (aA p.scheme),.string (aA p.rest),.bool p.hasQuery,.string (aA p.query),.bool p.hasFrag,.string (aA p.frag)]
def SO (p:cU):Value:= .agg (fK p)
def Lm:Array Value:= #[.bool false,.string ⟨#[]⟩,.string ⟨#[]⟩,.bool false,.string ⟨#[]⟩,.bool false,.string ⟨#[]⟩]
theorem Bw (w:World) (uY:Value):(Instr.alloc 76 true uY).run Tryz.prog w= .ok (.pointer (some ⟨w.heap.size,0,none⟩)) (w.alloc (.cells Lm 76)):=by kernel_rfl
theorem ZA:(⟨#[35]⟩:ByteArray)=aA [35]:=rfl
theorem adI:(⟨#[63]⟩:ByteArray)=aA [63]:=rfl
theorem ZB (l:List UInt8):rI l=gQ l:=by unfold rI gQ;apply List.map_congr_left;intro c _;rfl
theorem sX (l:List UInt8) (w:World) (hl:l.length≤4000000000):Calls Tryz.prog 19 #[.string (aA l)] w fun e w'=>e= .returned (.string (aA (gQ l)))∧Below w.heap.size w w':=by refine(wC (aA l) w (by rw[aD];exact hl)).mono ?_;rintro e w' ⟨h1,h2⟩;rw[aC,ZB] at h1;exact⟨h1,h2⟩
theorem F2 (l:List UInt8) (w:World) (hW:Laid w) (hl:l.length≤1000000000):Calls Tryz.prog 29 #[.string (aA l)] w fun e w'=>e= .returned (SO (splitN l))∧Below w.heap.size w w':=by
 have HW:=hid hW;have H1:=hid (fun W hW=>oH l 35 (by omega) W hW);have h1:=uN 35 l;have HS:Hid (splitN l=if(bM 58 (bM 63 (bM 35 l).1).1).2.2&&uC (bM 58 (bM 63 (bM 35 l).1).1).1 then{hasScheme:=true,scheme:=gQ (bM 58 (bM 63 (bM 35 l).1).1).1,rest:=(bM 58 (bM 63 (bM 35 l).1).1).2.1,hasQuery:=(bM 63 (bM 35 l).1).2.2,query:=(bM 63 (bM 35 l).1).2.1,hasFrag:=(bM 35 l).2.2,frag:=(bM 35 l).2.1}
  else{rest:=(bM 63 (bM 35 l).1).1,hasQuery:=(bM 63 (bM 35 l).1).2.2,query:=(bM 63 (bM 35 l).1).2.1,hasFrag:=(bM 35 l).2.2,frag:=(bM 35 l).2.1}):=hid rfl
 generalize bM 35 l=z1 at*;obtain⟨a,frag,hf⟩:=z1;simp only at h1;have H2:=hid (fun W hW=>oH a 63 (by omega) W hW);have h2:=uN 63 a;simp only at HS;generalize bM 63 a=z2 at*;obtain⟨b,query,hq⟩:=z2;simp only at h2 HS;have H3:=hid (fun W hW=>oH b 58 (by omega) W hW);have h3:=uN 58 b;generalize bM 58 b=z3 at*;obtain⟨c,tail,hs⟩:=z3;simp only at h3 HS H1 H2 H3;have H4:=hid (fun W=>Ph c W (by omega));have H5:=hid (fun W=>sX c W (by omega));clear h1 h2 h3;generalize uC c=sc at*;generalize gQ c=lc at*;go_enter Tryz.func29,Tryz.ntmps29;go_wp2_with (first|(refine eX (d:=2) rfl (Bw _) ?_;intro gA w1 aL hA)|(refine eX (d:=3) rfl (Bw _) ?_;intro gB w2 aJ hB));obtain⟨Fc,xI,Fe⟩:=hA.out;obtain⟨Ff,rR,GN⟩:=hB.out;have yI:gA≠gB:=by omega
 have Fg:w.heap.size≤gB:=by omega
 have Aa:w.heap.size≤gA:=by omega
 have HB:=hid (xI.trans (rR.mono (by omega)));replace aL:=aL.below rR;clear xI rR Fc Ff Fe GN hA hB;unfold Lm at aL aJ;rw[ZA];refine(H1.out _ (HW.out.below HB.out HW.out.size)).mono ?_;rintro e w3 ⟨rfl,cF⟩;replace aL:=aL.below cF;replace aJ:=aJ.below cF;replace HB:=aR HB cF;clear cF;go_wp2_with (refine oU _ rfl aJ rfl (by kernel_rfl) ?_;intro w1 aH aB;replace aL:=aL.other aB yI;replace HB:=bU HB aB.1 Fg;replace aJ:=aH;clear aB aH;simp[Act.eval] at aJ);rw[adI];refine(H2.out _ (HW.out.below HB.out HW.out.size)).mono ?_;rintro e w4 ⟨rfl,cG⟩;replace aL:=aL.below cG;replace aJ:=aJ.below cG;replace HB:=aR HB cG;clear cG;go_wp2_with (refine oU _ rfl aJ rfl (by kernel_rfl) ?_;intro w1 aH aB;replace aL:=aL.other aB yI;replace HB:=bU HB aB.1 Fg;replace aJ:=aH;clear aB aH;simp[Act.eval] at aJ);rw[mO];refine(H3.out _ (HW.out.below HB.out HW.out.size)).mono ?_;rintro e w5 ⟨rfl,aM⟩;replace aL:=aL.below aM;replace aJ:=aJ.below aM;replace HB:=aR HB aM;clear aM;cases hs with
 |false=>have HF:Hid (splitN l={rest:=b,hasQuery:=hq,query:=query,hasFrag:=hf,frag:=frag}):=hid (by rw[HS.out];rfl);clear HS;go_wp2_with (first|(refine oU _ rfl aJ rfl (by kernel_rfl) ?_;intro w1 aH aB;replace aL:=aL.other aB yI;replace HB:=bU HB aB.1 Fg;replace aJ:=aH;clear aB aH;simp[Act.eval] at aJ)|(refine fF rfl aJ CP rfl rfl ?_)|(refine lV rfl aL rfl (by kernel_rfl) ?_;intro w1 aH aB;replace aJ:=aJ.other aB (Ne.symm yI);replace HB:=bU HB aB.1 Aa;replace aL:=aH;clear aB aH));refine bK rfl rfl aL Tryz.underlying76 rfl (by kernel_rfl) rfl ?_;exact⟨by rw[HF.out];rfl,HB.out⟩
 |true=>
  cases sc with
  |false=>have HF:Hid (splitN l={rest:=b,hasQuery:=hq,query:=query,hasFrag:=hf,frag:=frag}):=hid (by rw[HS.out];rfl);clear HS;go_wp2_with fail;refine(H4.out _).mono ?_;rintro e w' ⟨rfl,rfl⟩;go_wp2_with (first|(refine oU _ rfl aJ rfl (by kernel_rfl) ?_;intro w1 aH aB;replace aL:=aL.other aB yI;replace HB:=bU HB aB.1 Fg;replace aJ:=aH;clear aB aH;simp[Act.eval] at aJ)|(refine fF rfl aJ CP rfl rfl ?_)|(refine lV rfl aL rfl (by kernel_rfl) ?_;intro w1 aH aB;replace aJ:=aJ.other aB (Ne.symm yI);replace HB:=bU HB aB.1 Aa;replace aL:=aH;clear aB aH));refine bK rfl rfl aL Tryz.underlying76 rfl (by kernel_rfl) rfl ?_;exact⟨by rw[HF.out];rfl,HB.out⟩
  |true=>have HF:Hid (splitN l={hasScheme:=true,scheme:=lc,rest:=tail,hasQuery:=hq,query:=query,hasFrag:=hf,frag:=frag}):=hid (by rw[HS.out];rfl);clear HS;go_wp2_with fail;refine(H4.out _).mono ?_;rintro e w' ⟨rfl,rfl⟩;go_wp2_with (first|(refine oU _ rfl aJ rfl (by kernel_rfl) ?_;intro w1 aH aB;replace aL:=aL.other aB yI;replace HB:=bU HB aB.1 Fg;replace aJ:=aH;clear aB aH;simp[Act.eval] at aJ)|(refine fF rfl aJ CP rfl rfl ?_)|(refine lV rfl aL rfl (by kernel_rfl) ?_;intro w1 aH aB;replace aJ:=aJ.other aB (Ne.symm yI);replace HB:=bU HB aB.1 Aa;replace aL:=aH;clear aB aH));refine(H5.out _).mono ?_;rintro e w5 ⟨rfl,aM⟩;replace aL:=aL.below aM;replace aJ:=aJ.below aM;replace HB:=aR HB aM;clear aM;go_wp2_with (first|(refine oU _ rfl aJ rfl (by kernel_rfl) ?_;intro w1 aH aB;replace aL:=aL.other aB yI;replace HB:=bU HB aB.1 Fg;replace aJ:=aH;clear aB aH;simp[Act.eval] at aJ)|(refine fF rfl aJ CP rfl rfl ?_)|(refine lV rfl aL rfl (by kernel_rfl) ?_;intro w1 aH aB;replace aJ:=aJ.other aB (Ne.symm yI);replace HB:=bU HB aB.1 Aa;replace aL:=aH;clear aB aH));refine bK rfl rfl aL Tryz.underlying76 rfl (by kernel_rfl) rfl ?_;exact⟨by rw[HF.out];rfl,HB.out⟩
theorem yJ:∀(s x y:List UInt8),xU s=some (x,y)→s=x++58::58::y∧∀j,j < x.length→Lib.occAt s [58,58] j=false:=by
 intro s;induction s with
 |nil=>intro x y h;cases h
 |cons a t ih=>
  intro x y h;cases t with
  |nil=>cases h
  |cons b t=>
   rw[xU] at h;split at h;·rename_i hab;cases h;exact⟨by rw[hab.1,hab.2];rfl,fun j hj=>absurd hj (by simp)⟩
   ·rename_i hab;cases hc:xU (b::t) with
    |none=>rw[hc] at h;cases h
    |some z=>
     obtain⟨x',y'⟩:=z;rw[hc] at h;cases h;obtain⟨h1,h2⟩:=ih x' y' hc;refine⟨by rw[h1];rfl,fun j hj=>?_⟩;cases j with
     |zero=>show(58==a&&(58==b&&_))=false;rw[Bool.eq_false_iff];intro hh;simp only[Bool.and_eq_true,beq_iff_eq] at hh;exact hab ⟨hh.1.symm,hh.2.1.symm⟩
     |succ j=>exact h2 j (by simpa using hj)
theorem Ww:∀(s:List UInt8),xU s=none→∀j,j≤s.length→Lib.occAt s [58,58] j=false:=by
 intro s;induction s with
 |nil=>intro _ j _;simp[Lib.occAt]
 |cons a t ih=>
  intro h j hj;cases t with
  |nil=>
   unfold Lib.occAt
   match j with
   |0=>show(58==a&&false)=false;simp
   |j+1=>simp
  |cons b t=>
   rw[xU] at h;split at h;·cases h
   ·rename_i hab;cases hc:xU (b::t) with
    |some z=>rw[hc] at h;cases h
    |none=>
     cases j with
     |zero=>show(58==a&&(58==b&&_))=false;rw[Bool.eq_false_iff];intro hh;simp only[Bool.and_eq_true,beq_iff_eq] at hh;exact hab ⟨hh.1.symm,hh.2.1.symm⟩
     |succ j=>exact ih hc j (by simpa using hj)
theorem adJ (s:List UInt8):Lib.cut s [58,58]=match xU s with
 |none=>(s,[],false)
 |some (x,y)=>(x,y,true):=by
 unfold Lib.cut;cases hc:xU s with
 |none=>rw[Lib.index_none (Ww s hc),if_neg (by omega)]
 |some z=>
  obtain⟨x,y⟩:=z;obtain⟨h1,h2⟩:=yJ s x y hc;have h3:Lib.index s [58,58]=(x.length:Int):=by refine Lib.index_first (by rw[h1];simp) ?_ h2;rw[h1];unfold Lib.occAt;simp
  rw[h3,if_pos (by omega)];simp only[Int.toNat_natCast];rw[h1];have e2:x.length+[(58:UInt8),58].length=(x++[58,58]).length:=by simp
  have e3:x++58::58::y=(x++[58,58])++y:=by simp
  rw[List.take_left,e3];rw[e2,List.drop_left]
theorem vI (s:List UInt8) (hs:s.length≤4000000000) (w:World) (hW:Laid w):
 Calls Tryz.prog 53 #[.string (aA s),.string (aA [58,58])] w fun e w'=>(match xU s with
  |none=>e= .returned (.tuple #[.string (aA s),.string (aA []),.bool false])
  |some (x,y)=>e= .returned (.tuple #[.string (aA x),.string (aA y),.bool true]))∧Below w.heap.size w w':=by
 obtain⟨m,hm⟩:=hW.max;refine(Tryz.strings_Cut (aA s) (aA [58,58]) m w (by rw[aD];omega) hm).mono ?_;rintro e w' ⟨rfl,n,rfl⟩;rw[aC,aC,adJ];refine⟨?_,Bk _ _ _⟩;cases xU s<;>rfl
theorem Fh (gA gB:Nat) (ZC:Array Value) (b:Value) (w:World) (hA:Row w gA 30 ZC) (h8:ZC.size=8) (hB:Row w gB 4 #[b]) (eG:gA≠gB) (PA:List PanicEntry):
 CallsD Tryz.prog 214 #[.pointer (some ⟨gA,0,none⟩),.pointer (some ⟨gB,0,none⟩)] (.panicking ({v:= .iface 230 (.agg #[]),recovered:=false}::PA)) w fun e u' w'=>
  e= .returned (.tuple #[])∧u'= .panicking ({v:= .iface 230 (.agg #[]),recovered:=true}::PA)∧Row w' gA 30 (dW [0,0,0,0,0,0,0,0])∧Row w' gB 4 #[.bool false]∧Below (min gA gB) w w':=by
 refine callsD_of_wpS Tryz.func214 rfl fun ZD cs hu=>?_;apply wpS_seq;apply wpS_region;simp[wpOpsS,go_sem,recoverD,hu,Tryz.ntmps214,Exit.thenS];refine wpS_cond (t:=true) (by simp[Act.eval,Array.replicate]) ?_;simp only[if_true];apply wpS_of_wp;apply wp_region_lit;refine aG rfl 30 _ rfl w (.agg (dW [0,0,0,0,0,0,0,0])) (by kernel_rfl) ?_;refine nH rfl 30 _ _ rfl gA (dW [0,0,0,0,0,0,0,0]) rfl rfl hA (by rw[h8];rfl) (by kernel_rfl) (by kernel_rfl) fun w1 hA1 aB=>?_;have hB1:=hB.other aB (Ne.symm eG);refine dS rfl 4 _ _ rfl gB 0 (.bool false) rfl rfl rfl hB1 rfl (by kernel_rfl) fun w2 hB2 JN=>?_;have hA2:=hA1.other JN eG;have lA:Below (min gA gB) w w2:=(aB.1.mono (Nat.min_le_left _ _)).trans (JN.1.mono (Nat.min_le_right _ _));apply wpList_nil;simp[bodyPostS,results,Tryz.results214,Act.put];exact⟨hA2,hB2,lA⟩
theorem DT (gA gB:Nat) (w:World):
 CallsD Tryz.prog 214 #[.pointer (some ⟨gA,0,none⟩),.pointer (some ⟨gB,0,none⟩)] .returning w fun e u' w'=>e= .returned (.tuple #[])∧u'= .returning∧w'=w:=by
 refine callsD_of_wpS Tryz.func214 rfl fun ZD cs hu=>?_;apply wpS_seq;apply wpS_region;simp[wpOpsS,go_sem,recoverD,hu,Tryz.ntmps214,Exit.thenS];refine wpS_cond (t:=false) (by simp[Act.eval,Array.replicate]) ?_;simp only[Bool.false_eq_true,if_false];refine wpS_of_wp (wp_skip ?_);cases ZD;simp_all [bodyPostS,results,Tryz.results214]
def qU:List Nat:=[0,0,0,0,0,0,0,0]
def sJ (o:Option (List Nat)):Value:=match o with
 |none=> .tuple #[Pv qU,.bool false]
 |some l=> .tuple #[Pv l,.bool true]
theorem pW (w:World) (uY:Value):(Instr.alloc 30 true uY).run Tryz.prog w= .ok (.pointer (some ⟨w.heap.size,0,none⟩)) (w.alloc (.cells (dW qU) 30)):=by kernel_rfl
theorem mP (w:World) (uY:Value):(Instr.alloc 4 true uY).run Tryz.prog w= .ok (.pointer (some ⟨w.heap.size,0,none⟩)) (w.alloc (.cells #[.bool false] 4)):=by kernel_rfl
theorem Bx {s:List UInt8} {b:Bool} {l:List Nat} (h:lH s b=some l):l.length≤8:=by
 unfold lH at h;split at h;·cases h;simp
 split at h;·cases h
 ·split at h;·cases h
  ·cases h;omega
theorem SP (cur l:List Nat) (off:Nat):splice (cur.map eY) off (l.map eY)=(splice cur off l).map eY:=by simp[splice,List.map_take,List.map_drop]
theorem SQ {w:World} {g:Nat} {t:TypeId} {arr:Array Value} (h:Row w g t arr) (cs:Array Value):Row (w.setRow g cs) g t cs∧mZ g w (w.setRow g cs):=
 ⟨setRow_heap w g arr cs t _ h,⟨rfl,rfl,rfl,by simp[World.setRow],fun k hk=>setRow_other w g k cs (by omega)⟩,by simp[World.setRow],fun b hb=>setRow_other w g b cs hb⟩
theorem tR {ops:Array Oper} {rest:List Oper} {o:Oper} {a:Act} {Q:Exit→Act→World→Prop} {w:World} (tK:o.guard=none) (d s:Operand)
 (ho:o.op= .call {callee:= .builtin .copy,args:= #[d,s],argTypes:= #[219,219]}) (g off n m:Nat) (cur l:List Nat) (dp:Option Addr) (sv:Value) (base:Nat)
 (hd:a.eval d= .slice dp n m) (hdp:0 < l.length→dp=some ⟨g,off,none⟩) (hs:a.eval s=sv) (bE:rQ w base sv l) (ahR:l.length≤n) (aqE:off+l.length≤cur.length) (hR:Row w g 30 (dW cur))
 (h:∀w',Row w' g 30 (dW (splice cur off l))→mZ g w w'→wpList Tryz.prog ops Q rest (a.put o.dst (goInt l.length)) w'):wpList Tryz.prog ops Q (o::rest) a w:=by
 obtain⟨A,c,rfl⟩:=bE.len;by_cases h0:l.length=0
 ·obtain rfl:l=[]:=List.eq_nil_of_length_eq_zero h0;refine wpList_copy_nothing tK d s 219 219 ho 29 Tryz.underlying219 (by kernel_rfl) dp A n m 0 c hd hs (by simp) (h w ?_ ⟨Below.refl _ _,rfl,fun _ _=>rfl⟩);have:splice cur off []=cur:=by simp[splice]
  rw[this];exact hR
 ·obtain rfl:=hdp (by omega);rcases bE.cells with⟨_,rfl⟩|⟨gs,cc,hv,hg1,hlc,aW⟩;·exact absurd rfl h0
  ·injection hv with Dy Yp;subst Dy;have AB:∀j v,(l.map eY)[j]? =some v→w.cell? ((⟨gs,0,none⟩:Addr).add j)=some v:=by intro j v hv;rw[List.getElem?_map] at hv;obtain⟨x,hx,rfl⟩:=Option.map_eq_some_iff.1 hv;obtain⟨hj,rfl⟩:=List.getElem?_eq_some_iff.1 hx;rw[CH];exact aW j hj
   have akU:∀v∈l.map eY,v.oneCell'=true:=by intro v hv;obtain⟨x,_,rfl⟩:=List.mem_map.1 hv;rfl
   obtain⟨r1,r2⟩:=SQ hR (dW (splice cur off l));have hlen:goInt (l.map eY).length=goInt l.length:=by rw[List.length_map]
   refine wpList_copy_own tK d s 219 219 ho 29 Tryz.underlying219 (by kernel_rfl) g off n m ⟨gs,0,none⟩ l.length c hd hs (dW cur) 30 hR (l.map eY) (by rw[List.length_map];exact(Nat.min_eq_left ahR).symm) AB (by simp[dW];omega) akU ?_;rw[hlen];have e:((dW cur).toList.take off++(l.map eY++(dW cur).toList.drop (off+(l.map eY).length))).toArray=dW (splice cur off l):=by unfold dW;rw[←SP];rfl
   rw[e];exact h _ r1 r2
theorem PB (l:List Nat):(dW l).all (·.oneCell')=true:=by rw[Array.all_eq_true_iff_forall_mem];intro v hv;simp only[dW,List.mem_toArray,List.mem_map] at hv;obtain⟨x,_,rfl⟩:=hv;rfl
theorem Ln (g:Nat) (W:World):(Instr.sliceAt 30 (.pointer (some ⟨g,0,none⟩)) none none none).run Tryz.prog W= .ok (.slice (some ⟨g,0,none⟩) 8 8) W:=by
 have hl:Tryz.prog.arrayLen 30=8:=by kernel_rfl
 have hu:Tryz.prog.underlying 30=some (.array (Tryz.prog.arrayLen 30) (Tryz.prog.elem 30)):=by kernel_rfl
 have hs:(sizeOf (Tryz.prog.elem 30)).run Tryz.prog W= .ok 1 W:=by kernel_rfl
 rw[run_sliceAt_array_all W 30 ⟨g,0,none⟩ hu,hs,hl];simp only[Result.andThen,slicedAt];rw[if_neg (by decide),CH]
theorem results209 {tmps:Array Value} {gA gB:Nat} {l:List Nat} {b:Bool} {w:World} (h2:tmps.getD 2 undef= .pointer (some ⟨gA,0,none⟩)) (h3:tmps.getD 3 undef= .pointer (some ⟨gB,0,none⟩)) (h8:l.length=8) (hA:Row w gA 30 (dW l)) (hB:Row w gB 4 #[.bool b]):
 (results Tryz.f209 tmps).run Tryz.prog w= .ok (.tuple #[Pv l,.bool b]) w:=by
 have hr:Tryz.f209.results= #[.cell 2 30,.cell 3 4]:=by kernel_rfl
 have hl:=run_loadVar_row (P:=Tryz.prog) w gA 30 30 (dW l) (0,0) _ hA Tryz.underlying30 rfl (by rw[show(dW l).size=8 by simp[dW,h8]];kernel_rfl);have hc:w.cell? ⟨gB,0,none⟩=some (.bool b):=hB.cell rfl;have h2':tmps[2]?.getD undef= .pointer (some ⟨gA,0,none⟩):=by simpa using h2
 have h3':tmps[3]?.getD undef= .pointer (some ⟨gB,0,none⟩):=by simpa using h3
 have cG:(loadVar 4 ⟨gB,0,none⟩).run Tryz.prog w= .ok (.bool b) w:=by simp[loadVar,go_sem,hc]
 simp[results,hr,h2',h3',asAddr,hl,cG];rfl
theorem PC (s:List UInt8) (hc:xU s=none) (jL:lH s true=none) (hs:s.length≤1000000000) (w:World) (hW:Laid w):Calls Tryz.prog 209 #[.string (aA s)] w fun e w'=>e= .returned (sJ (gM s))∧Below w.heap.size w w':=by
 have hmf:∀(fn:Fn) (first cap:Array Value) (w:World),(Instr.makeFunc fn first cap).run Tryz.prog w= .ok (.func fn first cap) w:=fun _ _ _ _=>rfl;have HC:=hid (fun W hW=>vI s (by omega) W hW);have HW:=hid hW;have HF:Hid (gM s=none):=hid (by unfold gM;rw[hc];simp only[jL]);rw[hc] at HC;simp only at HC;have HR:=hid (fun W hW=>qT s true hs W hW);rw[jL] at HR;simp only[iD] at HR;unfold EU at HR;clear hW hc jL
 go_enter_defers Tryz.func209,Tryz.ntmps209
 go_wp2_with (first|(refine eX rfl (pW _) ?_;intro gA w1 aL hA)|(refine eX rfl (mP _) ?_;intro gB w2 aJ hB));obtain⟨Fc,xI,Fe⟩:=hA.out;obtain⟨Ff,rR,GN⟩:=hB.out;have yI:gA≠gB:=by omega
 have Fg:w.heap.size≤gB:=by omega
 have Aa:w.heap.size≤gA:=by omega
 have HB:=hid (xI.trans (rR.mono (by omega)));replace aL:=aL.below rR;clear xI rR Fc Ff Fe GN hA hB;refine(HC.out _ (HW.out.below HB.out HW.out.size)).mono ?_;rintro e w3 ⟨rfl,cF⟩;replace aL:=aL.below cF;replace aJ:=aJ.below cF;replace HB:=aR HB cF;clear cF;go_wp2_with fail;refine(HR.out _ (HW.out.below HB.out HW.out.size)).mono ?_;rintro e w4 ⟨rfl,cG⟩;replace aL:=aL.below cG;replace aJ:=aJ.below cG;replace HB:=aR HB cG;clear cG;go_wp2_with fail;refine leaves_cons (f:=214) (args:= #[.pointer (some ⟨gA,0,none⟩),.pointer (some ⟨gB,0,none⟩)]) (by simp) (by simp[go_sem]) ?_;refine(Fh gA gB _ _ _ aL rfl aJ yI []).mono ?_;rintro e u' w9 ⟨rfl,rfl,hA9,hB9,sK⟩;exact⟨_,results209 rfl rfl rfl hA9 hB9,by rw[HF.out];rfl,HB.out.trans (sK.mono (by omega))⟩
theorem PD (s:List UInt8) (l:List Nat) (hc:xU s=none) (jL:lH s true=some l) (h8:l.length≠8) (hs:s.length≤1000000000) (w:World) (hW:Laid w):Calls Tryz.prog 209 #[.string (aA s)] w fun e w'=>e= .returned (sJ (gM s))∧Below w.heap.size w w':=by
 have hmf:∀(fn:Fn) (first cap:Array Value) (w:World),(Instr.makeFunc fn first cap).run Tryz.prog w= .ok (.func fn first cap) w:=fun _ _ _ _=>rfl;have HC:=hid (fun W hW=>vI s (by omega) W hW);have HW:=hid hW;have HF:Hid (gM s=none):=hid (by unfold gM;rw[hc];simp only[jL];rw[if_neg h8]);rw[hc] at HC;simp only at HC;have HR:=hid (fun W hW=>qT s true hs W hW);rw[jL] at HR;simp only[iD] at HR;have Ui:=Bx jL;clear hW hc jL
 go_enter_defers Tryz.func209,Tryz.ntmps209
 go_wp2_with (first|(refine eX rfl (pW _) ?_;intro gA w1 aL hA)|(refine eX rfl (mP _) ?_;intro gB w2 aJ hB));obtain⟨Fc,xI,Fe⟩:=hA.out;obtain⟨Ff,rR,GN⟩:=hB.out;have yI:gA≠gB:=by omega
 have Fg:w.heap.size≤gB:=by omega
 have Aa:w.heap.size≤gA:=by omega
 have HB:=hid (xI.trans (rR.mono (by omega)));replace aL:=aL.below rR;clear xI rR Fc Ff Fe GN hA hB;refine(HC.out _ (HW.out.below HB.out HW.out.size)).mono ?_;rintro e w3 ⟨rfl,cF⟩;replace aL:=aL.below cF;replace aJ:=aJ.below cF;replace HB:=aR HB cF;clear cF;go_wp2_with fail;refine(HR.out _ (HW.out.below HB.out HW.out.size)).mono ?_;rintro e w4 ⟨⟨v4,rfl,bE⟩,cG⟩;replace aL:=aL.below cG;replace aJ:=aJ.below cG;replace HB:=aR HB cG;obtain⟨A,c,hv⟩:=bE.len;subst hv;have hd:((l.length:Int)!=8)=true:=by simp;omega
 clear cG h8 bE;go_wp2_with (first|(refine oU _ rfl aJ rfl (by kernel_rfl) ?_;intro w1 aH aB;replace aL:=aL.other aB yI;replace HB:=bU HB aB.1 Fg;replace aJ:=aH;clear aB aH;simp[Act.eval] at aJ)|(refine aG rfl 30 _ rfl _ (.agg (dW qU)) (by kernel_rfl) ?_)|(refine lV rfl aL rfl (by kernel_rfl) ?_;intro w1 aH aB;replace aJ:=aJ.other aB (Ne.symm yI);replace HB:=bU HB aB.1 Aa;replace aL:=aH;clear aB aH));refine leaves_cons (f:=214) (args:= #[.pointer (some ⟨gA,0,none⟩),.pointer (some ⟨gB,0,none⟩)]) (by simp) (by simp[go_sem]) ?_;refine(DT gA gB _).mono ?_;rintro e u' w9 ⟨rfl,rfl,rfl⟩;exact⟨_,results209 rfl rfl rfl aL aJ,by rw[HF.out];rfl,HB.out⟩
theorem PE (s:List UInt8) (l:List Nat) (hc:xU s=none) (jL:lH s true=some l) (h8:l.length=8) (hs:s.length≤1000000000) (w:World) (hW:Laid w):Calls Tryz.prog 209 #[.string (aA s)] w fun e w'=>e= .returned (sJ (gM s))∧Below w.heap.size w w':=by
 have hmf:∀(fn:Fn) (first cap:Array Value) (w:World),(Instr.makeFunc fn first cap).run Tryz.prog w= .ok (.func fn first cap) w:=fun _ _ _ _=>rfl;have HC:=hid (fun W hW=>vI s (by omega) W hW);have HW:=hid hW;have HF:Hid (gM s=some l):=hid (by unfold gM;rw[hc];simp only[jL];rw[if_pos h8]);rw[hc] at HC;simp only at HC;have HR:=hid (fun W hW=>qT s true hs W hW);rw[jL] at HR;simp only[iD] at HR;clear hW hc jL
 go_enter_defers Tryz.func209,Tryz.ntmps209
 go_wp2_with (first|(refine eX rfl (pW _) ?_;intro gA w1 aL hA)|(refine eX rfl (mP _) ?_;intro gB w2 aJ hB));obtain⟨Fc,xI,Fe⟩:=hA.out;obtain⟨Ff,rR,GN⟩:=hB.out;have yI:gA≠gB:=by omega
 have Fg:w.heap.size≤gB:=by omega
 have Aa:w.heap.size≤gA:=by omega
 have HB:=hid (xI.trans (rR.mono (by omega)));replace aL:=aL.below rR;clear xI rR Fc Ff Fe GN hA hB;refine(HC.out _ (HW.out.below HB.out HW.out.size)).mono ?_;rintro e w3 ⟨rfl,cF⟩;replace aL:=aL.below cF;replace aJ:=aJ.below cF;replace HB:=aR HB cF;clear cF;go_wp2_with fail;refine(HR.out _ (HW.out.below HB.out HW.out.size)).mono ?_;rintro e w4 ⟨⟨v4,rfl,bE⟩,cG⟩;replace aL:=aL.below cG;replace aJ:=aJ.below cG;replace HB:=aR HB cG;obtain⟨A,c,hv⟩:=bE.len;subst hv;have hd:((l.length:Int)!=8)=false:=by simp;omega
 have tF:=fun W=>Ln gA W;have G2:splice qU 0 l=l:=by unfold splice;rw[List.drop_eq_nil_of_le (by show 8≤_;omega)];simp
 have SZ:Hid ((dW l).size=8):=hid (by simp[dW];omega);have SZ2:=SZ;have H30:Hid ((Tryz.prog.info? 30).map (·.size)=some (dW l).size):=hid (by rw[SZ.out];kernel_rfl);have ahS:Hid ((dW l).all (·.oneCell')=true):=hid (PB _);have H8:=hid h8;clear cG h8;go_wp2_with (first|(refine tR rfl _ _ rfl gA 0 8 8 qU l (some ⟨gA,0,none⟩) _ _ rfl (fun _=>rfl) rfl bE (Nat.le_of_eq H8.out) (by rw[H8.out];decide) aL ?_;intro w5 pK B1;rw[G2] at pK;replace aL:=pK;replace aJ:=aJ.other B1 (Ne.symm yI);replace HB:=bU HB B1.1 Aa;clear B1 pK G2 bE)|(refine oU _ rfl aJ rfl (by kernel_rfl) ?_;intro w1 aH aB;replace aL:=aL.other aB yI;replace HB:=bU HB aB.1 Fg;replace aJ:=aH;clear aB aH;simp[Act.eval] at aJ)|(refine qS rfl 30 _ rfl _ rfl aL _ Tryz.underlying30 rfl H30.out ?_)|(refine nH rfl 30 _ _ rfl _ _ rfl rfl aL (by rw[SZ.out];rfl) (by rw[SZ2.out];kernel_rfl) ahS.out ?_;intro w1 aH aB;replace aJ:=aJ.other aB (Ne.symm yI);replace HB:=bU HB aB.1 Aa;replace aL:=aH;clear aB aH));refine leaves_cons (f:=214) (args:= #[.pointer (some ⟨gA,0,none⟩),.pointer (some ⟨gB,0,none⟩)]) (by simp) (by simp[go_sem]) ?_;refine(DT gA gB _).mono ?_;rintro e u' w9 ⟨rfl,rfl,rfl⟩;exact⟨_,results209 rfl rfl H8.out aL aJ,by rw[HF.out];rfl,HB.out⟩
theorem SR (l:List Nat) (h:l.length≤8):splice qU 0 l=l++List.replicate (8 - l.length) 0:=by unfold splice;rw[List.take_zero,List.nil_append,Nat.zero_add];congr 1;show(List.replicate 8 0).drop l.length=_;rw[List.drop_replicate]
theorem SS (l r:List Nat) (h:l.length+r.length≤8):splice (l++List.replicate (8 - l.length) 0) (8 - r.length) r=l++(List.replicate (8 - l.length - r.length) 0++r):=by
 unfold splice;rw[List.take_append,List.take_of_length_le (by omega),List.take_replicate,List.drop_eq_nil_of_le (by simp;omega)];have e:min (8 - r.length - l.length) (8 - l.length)=8 - l.length - r.length:=by omega
 rw[e];simp
theorem Ja (g k n:Nat) (h:k+n=8) (W:World):∃dp,(0 < n→dp=some ⟨g,k,none⟩)∧(Instr.sliceAt 30 (.pointer (some ⟨g,0,none⟩)) (some (.int .i64 (k:Int))) none none).run Tryz.prog W= .ok (.slice dp n n) W:=by
 have hl:Tryz.prog.arrayLen 30=8:=by kernel_rfl
 have hu:Tryz.prog.underlying 30=some (.array (Tryz.prog.arrayLen 30) (Tryz.prog.elem 30)):=by kernel_rfl
 have hs:(sizeOf (Tryz.prog.elem 30)).run Tryz.prog W= .ok 1 W:=by kernel_rfl
 rw[run_sliceAt_array_l W 30 ⟨g,0,none⟩ hu .i64 (k:Int) (by omega) (by rw[hl];omega),hs,hl];have e2:8 - (k:Int).toNat=n:=by omega
 simp only[Result.andThen,slicedAt,e2];refine⟨_,fun hn=>?_,rfl⟩;rw[if_neg (by omega),CH];simp
theorem MX (g k n:Nat) (h:k+n=8):∃dp,(0 < n→dp=some ⟨g,k,none⟩)∧∀W,(Instr.sliceAt 30 (.pointer (some ⟨g,0,none⟩)) (some (.int .i64 (k:Int))) none none).run Tryz.prog W= .ok (.slice dp n n) W:=by
 refine⟨if 8=k then some ⟨g,0,none⟩ else some ⟨g,k,none⟩,fun hn=>by rw[if_neg (by omega)],fun W=>?_⟩;obtain⟨dp,h1,h2⟩:=Ja g k n h W;by_cases h8:8=k
 ·have hl:Tryz.prog.arrayLen 30=8:=by kernel_rfl
  have hu:Tryz.prog.underlying 30=some (.array (Tryz.prog.arrayLen 30) (Tryz.prog.elem 30)):=by kernel_rfl
  have hs:(sizeOf (Tryz.prog.elem 30)).run Tryz.prog W= .ok 1 W:=by kernel_rfl
  rw[run_sliceAt_array_l W 30 ⟨g,0,none⟩ hu .i64 (k:Int) (by omega) (by rw[hl];omega),hs,hl];have e2:8 - (k:Int).toNat=n:=by omega
  have e3:8 - 8=0:=rfl;simp only[Result.andThen,slicedAt,e2,if_pos h8];rw[if_pos (by omega)]
 ·rw[if_neg h8,←h1 (by omega)];exact h2
theorem PF (s:List UInt8) (x y:List UInt8) (hc:xU s=some (x,y)) (hx:lH x false=none) (hs:s.length≤1000000000) (w:World) (hW:Laid w):Calls Tryz.prog 209 #[.string (aA s)] w fun e w'=>e= .returned (sJ (gM s))∧Below w.heap.size w w':=by
 have hmf:∀(fn:Fn) (first cap:Array Value) (w:World),(Instr.makeFunc fn first cap).run Tryz.prog w= .ok (.func fn first cap) w:=fun _ _ _ _=>rfl;have HC:=hid (fun W hW=>vI s (by omega) W hW);have HW:=hid hW;have HF:Hid (gM s=none):=hid (by unfold gM;rw[hc];simp only[hx]);rw[hc] at HC;simp only at HC;have Lc:=(yJ s x y hc).1;have Yz:x.length≤s.length∧y.length≤s.length:=by rw[Lc];simp;omega
 have HX:=hid (fun W hW=>qT x false (by omega) W hW);have HY:=hid (fun W hW=>qT y true (by omega) W hW);clear Lc Yz;rw[hx] at HX;simp only[iD] at HX;unfold EU at HX;clear hW hc hx
 go_enter_defers Tryz.func209,Tryz.ntmps209
 go_wp2_with (first|(refine eX rfl (pW _) ?_;intro gA w1 aL hA)|(refine eX rfl (mP _) ?_;intro gB w2 aJ hB));obtain⟨Fc,xI,Fe⟩:=hA.out;obtain⟨Ff,rR,GN⟩:=hB.out;have yI:gA≠gB:=by omega
 have Fg:w.heap.size≤gB:=by omega
 have Aa:w.heap.size≤gA:=by omega
 have HB:=hid (xI.trans (rR.mono (by omega)));replace aL:=aL.below rR;clear xI rR Fc Ff Fe GN hA hB;refine(HC.out _ (HW.out.below HB.out HW.out.size)).mono ?_;rintro e w3 ⟨rfl,cF⟩;replace aL:=aL.below cF;replace aJ:=aJ.below cF;replace HB:=aR HB cF;clear cF;go_wp2_with fail;refine(HX.out _ (HW.out.below HB.out HW.out.size)).mono ?_;rintro e w4 ⟨rfl,cG⟩;replace aL:=aL.below cG;replace aJ:=aJ.below cG;replace HB:=aR HB cG;clear cG;go_wp2_with fail;refine leaves_cons (f:=214) (args:= #[.pointer (some ⟨gA,0,none⟩),.pointer (some ⟨gB,0,none⟩)]) (by simp) (by simp[go_sem]) ?_;refine(Fh gA gB _ _ _ aL rfl aJ yI []).mono ?_;rintro e u' w9 ⟨rfl,rfl,hA9,hB9,sK⟩;exact⟨_,results209 rfl rfl rfl hA9 hB9,by rw[HF.out];rfl,HB.out.trans (sK.mono (by omega))⟩
theorem PG (s:List UInt8) (x y:List UInt8) (l:List Nat) (hc:xU s=some (x,y)) (hx:lH x false=some l) (hy:lH y true=none) (hs:s.length≤1000000000) (w:World) (hW:Laid w):Calls Tryz.prog 209 #[.string (aA s)] w fun e w'=>e= .returned (sJ (gM s))∧Below w.heap.size w w':=by
 have hmf:∀(fn:Fn) (first cap:Array Value) (w:World),(Instr.makeFunc fn first cap).run Tryz.prog w= .ok (.func fn first cap) w:=fun _ _ _ _=>rfl;have HC:=hid (fun W hW=>vI s (by omega) W hW);have HW:=hid hW;have HF:Hid (gM s=none):=hid (by unfold gM;rw[hc];simp only[hx,hy]);rw[hc] at HC;simp only at HC;have Lc:=(yJ s x y hc).1;have Yz:x.length≤s.length∧y.length≤s.length:=by rw[Lc];simp;omega
 have HX:=hid (fun W hW=>qT x false (by omega) W hW);have HY:=hid (fun W hW=>qT y true (by omega) W hW);clear Lc Yz;rw[hx] at HX;rw[hy] at HY;simp only[iD] at HX HY;unfold EU at HY;clear hW hc hx hy
 go_enter_defers Tryz.func209,Tryz.ntmps209
 go_wp2_with (first|(refine eX rfl (pW _) ?_;intro gA w1 aL hA)|(refine eX rfl (mP _) ?_;intro gB w2 aJ hB));obtain⟨Fc,xI,Fe⟩:=hA.out;obtain⟨Ff,rR,GN⟩:=hB.out;have yI:gA≠gB:=by omega
 have Fg:w.heap.size≤gB:=by omega
 have Aa:w.heap.size≤gA:=by omega
 have HB:=hid (xI.trans (rR.mono (by omega)));replace aL:=aL.below rR;clear xI rR Fc Ff Fe GN hA hB;refine(HC.out _ (HW.out.below HB.out HW.out.size)).mono ?_;rintro e w3 ⟨rfl,cF⟩;replace aL:=aL.below cF;replace aJ:=aJ.below cF;replace HB:=aR HB cF;clear cF;go_wp2_with fail;refine(HX.out _ (HW.out.below HB.out HW.out.size)).mono ?_;rintro e w5 ⟨⟨v4,rfl,bE⟩,aM⟩;replace aL:=aL.below aM;replace aJ:=aJ.below aM;replace HB:=aR HB aM;clear aM;go_wp2_with fail;refine(HY.out _ (HW.out.below HB.out HW.out.size)).mono ?_;rintro e w4 ⟨rfl,cG⟩;replace aL:=aL.below cG;replace aJ:=aJ.below cG;replace HB:=aR HB cG;clear cG;go_wp2_with fail;refine leaves_cons (f:=214) (args:= #[.pointer (some ⟨gA,0,none⟩),.pointer (some ⟨gB,0,none⟩)]) (by simp) (by simp[go_sem]) ?_;refine(Fh gA gB _ _ _ aL rfl aJ yI []).mono ?_;rintro e u' w9 ⟨rfl,rfl,hA9,hB9,sK⟩;exact⟨_,results209 rfl rfl rfl hA9 hB9,by rw[HF.out];rfl,HB.out.trans (sK.mono (by omega))⟩
theorem PH (s:List UInt8) (x y:List UInt8) (l r:List Nat) (hc:xU s=some (x,y)) (hx:lH x false=some l) (hy:lH y true=some r) (h8:8≤l.length+r.length) (hs:s.length≤1000000000) (w:World) (hW:Laid w):Calls Tryz.prog 209 #[.string (aA s)] w fun e w'=>e= .returned (sJ (gM s))∧Below w.heap.size w w':=by
 have hmf:∀(fn:Fn) (first cap:Array Value) (w:World),(Instr.makeFunc fn first cap).run Tryz.prog w= .ok (.func fn first cap) w:=fun _ _ _ _=>rfl;have HC:=hid (fun W hW=>vI s (by omega) W hW);have HW:=hid hW;have HF:Hid (gM s=none):=hid (by unfold gM;rw[hc];simp only[hx,hy];rw[if_pos h8]);rw[hc] at HC;simp only at HC;have Ui:=Bx hx;have UC:=Bx hy;have Lc:=(yJ s x y hc).1;have Yz:x.length≤s.length∧y.length≤s.length:=by rw[Lc];simp;omega
 have HX:=hid (fun W hW=>qT x false (by omega) W hW);have HY:=hid (fun W hW=>qT y true (by omega) W hW);clear Lc Yz;rw[hx] at HX;rw[hy] at HY;simp only[iD] at HX HY;clear hW hc hx hy
 go_enter_defers Tryz.func209,Tryz.ntmps209
 go_wp2_with (first|(refine eX rfl (pW _) ?_;intro gA w1 aL hA)|(refine eX rfl (mP _) ?_;intro gB w2 aJ hB));obtain⟨Fc,xI,Fe⟩:=hA.out;obtain⟨Ff,rR,GN⟩:=hB.out;have yI:gA≠gB:=by omega
 have Fg:w.heap.size≤gB:=by omega
 have Aa:w.heap.size≤gA:=by omega
 have HB:=hid (xI.trans (rR.mono (by omega)));replace aL:=aL.below rR;clear xI rR Fc Ff Fe GN hA hB;refine(HC.out _ (HW.out.below HB.out HW.out.size)).mono ?_;rintro e w3 ⟨rfl,cF⟩;replace aL:=aL.below cF;replace aJ:=aJ.below cF;replace HB:=aR HB cF;clear cF;go_wp2_with fail;refine(HX.out _ (HW.out.below HB.out HW.out.size)).mono ?_;rintro e w5 ⟨⟨v5,rfl,Au⟩,aM⟩;replace aL:=aL.below aM;replace aJ:=aJ.below aM;replace HB:=aR HB aM;go_wp2_with fail;refine(HY.out _ (HW.out.below HB.out HW.out.size)).mono ?_;rintro e w6 ⟨⟨v6,rfl,Cs⟩,fH⟩;replace aL:=aL.below fH;replace aJ:=aJ.below fH;replace HB:=aR HB fH;replace Au:=Au.below fH;obtain⟨A,c,hv⟩:=Au.len;subst hv;obtain⟨A',c',Vf⟩:=Cs.len;subst Vf;clear aM fH;have hd:decide ((8:Int)≤(l.length:Int)+(r.length:Int))=true:=by simp;omega
 clear Au Cs h8;go_wp2_with (first|(refine oU _ rfl aJ rfl (by kernel_rfl) ?_;intro w1 aH aB;replace aL:=aL.other aB yI;replace HB:=bU HB aB.1 Fg;replace aJ:=aH;clear aB aH;simp[Act.eval] at aJ)|(refine aG rfl 30 _ rfl _ (.agg (dW qU)) (by kernel_rfl) ?_)|(refine lV rfl aL rfl (by kernel_rfl) ?_;intro w1 aH aB;replace aJ:=aJ.other aB (Ne.symm yI);replace HB:=bU HB aB.1 Aa;replace aL:=aH;clear aB aH));refine leaves_cons (f:=214) (args:= #[.pointer (some ⟨gA,0,none⟩),.pointer (some ⟨gB,0,none⟩)]) (by simp) (by simp[go_sem]) ?_;refine(DT gA gB _).mono ?_;rintro e u' w9 ⟨rfl,rfl,rfl⟩;exact⟨_,results209 rfl rfl rfl aL aJ,by rw[HF.out];rfl,HB.out⟩
theorem rQ.uP {w w':World} {base g:Nat} {v:Value} {l:List Nat} (h:rQ w base v l) (he:mZ g w w') (hg:g < base):rQ w' base v l:=by
 obtain⟨h1,h2⟩:=h;refine⟨h1,?_⟩;rcases h2 with h2|⟨b,cap,cur,hv,hb,hh,r⟩;·exact .inl h2
 ·exact .inr ⟨b,cap,cur,hv,hb,by rw[he.2.2 b (by omega)];exact hh,r⟩
theorem PI (s:List UInt8) (x y:List UInt8) (l r:List Nat) (hc:xU s=some (x,y)) (hx:lH x false=some l) (hy:lH y true=some r) (h8:l.length+r.length < 8) (hs:s.length≤1000000000) (w:World) (hW:Laid w):Calls Tryz.prog 209 #[.string (aA s)] w fun e w'=>e= .returned (sJ (gM s))∧Below w.heap.size w w':=by
 have hmf:∀(fn:Fn) (first cap:Array Value) (w:World),(Instr.makeFunc fn first cap).run Tryz.prog w= .ok (.func fn first cap) w:=fun _ _ _ _=>rfl;have HC:=hid (fun W hW=>vI s (by omega) W hW);have HW:=hid hW;have HF:Hid (gM s=some (l++(List.replicate (8 - l.length - r.length) 0++r))):=hid (by unfold gM;rw[hc];simp only[hx,hy];rw[if_neg (by omega)]);rw[hc] at HC;simp only at HC;have Ui:=Bx hx;have UC:=Bx hy;have Lc:=(yJ s x y hc).1;have Yz:x.length≤s.length∧y.length≤s.length:=by rw[Lc];simp;omega
 have HX:=hid (fun W hW=>qT x false (by omega) W hW);have HY:=hid (fun W hW=>qT y true (by omega) W hW);clear Lc Yz;rw[hx] at HX;rw[hy] at HY;simp only[iD] at HX HY;clear hW hc hx hy
 go_enter_defers Tryz.func209,Tryz.ntmps209
 go_wp2_with (first|(refine eX rfl (pW _) ?_;intro gA w1 aL hA)|(refine eX rfl (mP _) ?_;intro gB w2 aJ hB));obtain⟨Fc,xI,Fe⟩:=hA.out;obtain⟨Ff,rR,GN⟩:=hB.out;have yI:gA≠gB:=by omega
 have Fg:w.heap.size≤gB:=by omega
 have Aa:w.heap.size≤gA:=by omega
 have HB:=hid (xI.trans (rR.mono (by omega)));replace aL:=aL.below rR;clear xI rR Fc Ff Fe GN hA hB;refine(HC.out _ (HW.out.below HB.out HW.out.size)).mono ?_;rintro e w3 ⟨rfl,cF⟩;replace aL:=aL.below cF;replace aJ:=aJ.below cF;replace HB:=aR HB cF;clear cF;go_wp2_with fail;refine(HX.out _ (HW.out.below HB.out HW.out.size)).mono ?_;rintro e w5 ⟨⟨v5,rfl,Au⟩,aM⟩;have akV:=aL.lt;replace Au:=Au.mono (Nat.succ_le_of_lt akV);replace aL:=aL.below aM;replace aJ:=aJ.below aM;replace HB:=aR HB aM;clear akV;go_wp2_with fail;refine(HY.out _ (HW.out.below HB.out HW.out.size)).mono ?_;rintro e w6 ⟨⟨v6,rfl,Cs⟩,fH⟩;have akW:=aL.lt;replace Cs:=Cs.mono (Nat.succ_le_of_lt akW);replace aL:=aL.below fH;replace aJ:=aJ.below fH;replace HB:=aR HB fH;replace Au:=Au.below fH;obtain⟨A,c,hv⟩:=Au.len;subst hv;obtain⟨A',c',Vf⟩:=Cs.len;subst Vf;clear aM fH akW;have hd:decide ((8:Int)≤(l.length:Int)+(r.length:Int))=false:=by simp;omega
 have tF:=fun W=>Ln gA W;obtain⟨k,hk⟩:∃k,k=8 - r.length:=⟨_,rfl⟩;obtain⟨dp,hdp,JQ⟩:=MX gA k r.length (by omega);have hkw:IntKind.i64.wrap ((8:Int) - (r.length:Int))=(k:Int):=by rw[IntWalk.i64_in _ (by omega)];omega
 have akX:=hid (SR l Ui);have ahT:Hid (splice (l++List.replicate (8 - l.length) 0) k r=l++(List.replicate (8 - l.length - r.length) 0++r)):=hid (by rw[hk];exact SS l r (by omega));obtain⟨m1,VE⟩:∃m1,m1=l++List.replicate (8 - l.length) 0:=⟨_,rfl⟩;obtain⟨m2,Rp⟩:∃m2,m2=l++(List.replicate (8 - l.length - r.length) 0++r):=⟨_,rfl⟩;have anU:m1.length=8:=by rw[VE];simp;omega
 have akY:m2.length=8:=by rw[Rp];simp;omega
 rw[←Rp] at HF ahT;rw[←VE] at akX ahT;have HK:Hid (k+r.length≤m1.length):=hid (by omega);have HL0:Hid (0+l.length≤qU.length):=hid (by show 0+l.length≤8;omega);have SZ:Hid ((dW m2).size=8):=hid (by simp[dW];omega);have SZ2:=SZ;have H30:Hid ((Tryz.prog.info? 30).map (·.size)=some (dW m2).size):=hid (by rw[SZ.out];kernel_rfl);have ahS:Hid ((dW m2).all (·.oneCell')=true):=hid (PB _);have H8:=hid akY;have HDP:=hid hdp;have HLL:=hid Ui;clear VE Rp hk h8 anU akY hdp;go_wp2_with (first|(refine tR rfl _ _ rfl gA 0 8 8 qU l (some ⟨gA,0,none⟩) _ _ rfl (fun _=>rfl) rfl Au HLL.out HL0.out aL ?_;intro w5 pK B1;rw[akX.out] at pK;replace aL:=pK;replace aJ:=aJ.other B1 (Ne.symm yI);replace HB:=bU HB B1.1 Aa;replace Cs:=Cs.uP B1 (Nat.lt_succ_self _);clear B1 pK Au)|(refine tR rfl _ _ rfl gA k r.length r.length m1 r dp _ _ rfl HDP.out rfl Cs (Nat.le_refl _) HK.out aL ?_;intro w5 pK B1;rw[ahT.out] at pK;replace aL:=pK;replace aJ:=aJ.other B1 (Ne.symm yI);replace HB:=bU HB B1.1 Aa;clear B1 pK Cs)|(refine oU _ rfl aJ rfl (by kernel_rfl) ?_;intro w1 aH aB;replace aL:=aL.other aB yI;replace HB:=bU HB aB.1 Fg;replace aJ:=aH;clear aB aH;simp[Act.eval] at aJ)|(refine qS rfl 30 _ rfl _ rfl aL _ Tryz.underlying30 rfl H30.out ?_)|(refine nH rfl 30 _ _ rfl _ _ rfl rfl aL (by rw[SZ.out];rfl) (by rw[SZ2.out];kernel_rfl) ahS.out ?_;intro w1 aH aB;replace aJ:=aJ.other aB (Ne.symm yI);replace HB:=bU HB aB.1 Aa;replace aL:=aH;clear aB aH));refine leaves_cons (f:=214) (args:= #[.pointer (some ⟨gA,0,none⟩),.pointer (some ⟨gB,0,none⟩)]) (by simp) (by simp[go_sem]) ?_;refine(DT gA gB _).mono ?_;rintro e u' w9 ⟨rfl,rfl,rfl⟩;exact⟨_,results209 rfl rfl H8.out aL aJ,by rw[HF.out];rfl,HB.out⟩
theorem Wx (s:List UInt8) (hs:s.length≤1000000000) (w:World) (hW:Laid w):Calls Tryz.prog 209 #[.string (aA s)] w fun e w'=>e= .returned (sJ (gM s))∧Below w.heap.size w w':=by
 cases hc:xU s with
 |none=>
  cases hr:lH s true with
  |none=>exact PC s hc hr hs w hW
  |some l=>
   by_cases h8:l.length=8;·exact PE s l hc hr h8 hs w hW
   ·exact PD s l hc hr h8 hs w hW
 |some z=>
  obtain⟨x,y⟩:=z;cases hx:lH x false with
  |none=>exact PF s x y hc hx hs w hW
  |some l=>
   cases hy:lH y true with
   |none=>exact PG s x y l hc hx hy hs w hW
   |some r=>
    by_cases h8:8≤l.length+r.length;·exact PH s x y l r hc hx hy h8 hs w hW
    ·exact PI s x y l r hc hx hy (by omega) hs w hW
end Go.Proofs.YtmgmclkplepapaaGreatDoor
