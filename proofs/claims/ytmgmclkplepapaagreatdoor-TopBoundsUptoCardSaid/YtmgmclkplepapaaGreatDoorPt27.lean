/- Part of the proof of TopBoundsUptoCardSaid. Conditions: none beyond the statement. -/
import Derived.Laws.CopyOwn
import Derived.Test.YtmgmclkplepapaaGreatDoorPt26
set_option linter.all false
set_option maxRecDepth 100000
set_option maxHeartbeats 64000000
namespace Go.Proofs.YtmgmclkplepapaaGreatDoor
open Go.RowKit
def fK (p:cU):Array Value:= #[.bool p.hasScheme,.string (aA p.scheme),.string (aA p.rest),.bool p.hasQuery,.string (aA p.query),.bool p.hasFrag,.string (aA p.frag)]
def SN (p:cU):Value:= .agg (fK p)
def Ll:Array Value:= #[.bool false,.string ⟨#[]⟩,.string ⟨#[]⟩,.bool false,.string ⟨#[]⟩,.bool false,.string ⟨#[]⟩]
theorem Bv (w:World) (uX:Value):(Instr.alloc 76 true uX).run Tryz.prog w= .ok (.pointer (some ⟨w.heap.size,0,none⟩)) (w.alloc (.cells Ll 76)):=by kernel_rfl
theorem Zz:(⟨#[35]⟩:ByteArray)=aA [35]:=rfl
theorem adH:(⟨#[63]⟩:ByteArray)=aA [63]:=rfl
theorem ZA (l:List UInt8):rH l=gN l:=by unfold rH gN;apply List.map_congr_left;intro c _;rfl
theorem sW (l:List UInt8) (w:World) (hl:l.length≤4000000000):Calls Tryz.prog 19 #[.string (aA l)] w fun e w'=>e= .returned (.string (aA (gN l)))∧Below w.heap.size w w':=by refine(wB (aA l) w (by rw[aD];exact hl)).mono ?_;rintro e w' ⟨h1,h2⟩;rw[aC,ZA] at h1;exact⟨h1,h2⟩
theorem F1 (l:List UInt8) (w:World) (hW:Laid w) (hl:l.length≤1000000000):Calls Tryz.prog 29 #[.string (aA l)] w fun e w'=>e= .returned (SN (splitN l))∧Below w.heap.size w w':=by
 have HW:=hid hW;have H1:=hid (fun W hW=>oG l 35 (by omega) W hW);have h1:=uM 35 l;have HS:Hid (splitN l=if(bM 58 (bM 63 (bM 35 l).1).1).2.2&&uB (bM 58 (bM 63 (bM 35 l).1).1).1 then{hasScheme:=true,scheme:=gN (bM 58 (bM 63 (bM 35 l).1).1).1,rest:=(bM 58 (bM 63 (bM 35 l).1).1).2.1,hasQuery:=(bM 63 (bM 35 l).1).2.2,query:=(bM 63 (bM 35 l).1).2.1,hasFrag:=(bM 35 l).2.2,frag:=(bM 35 l).2.1}
  else{rest:=(bM 63 (bM 35 l).1).1,hasQuery:=(bM 63 (bM 35 l).1).2.2,query:=(bM 63 (bM 35 l).1).2.1,hasFrag:=(bM 35 l).2.2,frag:=(bM 35 l).2.1}):=hid rfl
 generalize bM 35 l=z1 at*;obtain⟨a,frag,hf⟩:=z1;simp only at h1;have H2:=hid (fun W hW=>oG a 63 (by omega) W hW);have h2:=uM 63 a;simp only at HS;generalize bM 63 a=z2 at*;obtain⟨b,query,hq⟩:=z2;simp only at h2 HS;have H3:=hid (fun W hW=>oG b 58 (by omega) W hW);have h3:=uM 58 b;generalize bM 58 b=z3 at*;obtain⟨c,tail,hs⟩:=z3;simp only at h3 HS H1 H2 H3;have H4:=hid (fun W=>Pg c W (by omega));have H5:=hid (fun W=>sW c W (by omega));clear h1 h2 h3;generalize uB c=sc at*;generalize gN c=lc at*;go_enter Tryz.func29,Tryz.ntmps29;go_wp2_with (first|(refine eX (d:=2) rfl (Bv _) ?_;intro gA w1 aL hA)|(refine eX (d:=3) rfl (Bv _) ?_;intro gB w2 aJ hB));obtain⟨Fb,xH,Fc⟩:=hA.out;obtain⟨Fe,rQ,GM⟩:=hB.out;have yH:gA≠gB:=by omega
 have Ff:w.heap.size≤gB:=by omega
 have zZ:w.heap.size≤gA:=by omega
 have HB:=hid (xH.trans (rQ.mono (by omega)));replace aL:=aL.below rQ;clear xH rQ Fb Fe Fc GM hA hB;unfold Ll at aL aJ;rw[Zz];refine(H1.out _ (HW.out.below HB.out HW.out.size)).mono ?_;rintro e w3 ⟨rfl,cF⟩;replace aL:=aL.below cF;replace aJ:=aJ.below cF;replace HB:=aR HB cF;clear cF;go_wp2_with (refine oT _ rfl aJ rfl (by kernel_rfl) ?_;intro w1 aH aB;replace aL:=aL.other aB yH;replace HB:=bU HB aB.1 Ff;replace aJ:=aH;clear aB aH;simp[Act.eval] at aJ);rw[adH];refine(H2.out _ (HW.out.below HB.out HW.out.size)).mono ?_;rintro e w4 ⟨rfl,cG⟩;replace aL:=aL.below cG;replace aJ:=aJ.below cG;replace HB:=aR HB cG;clear cG;go_wp2_with (refine oT _ rfl aJ rfl (by kernel_rfl) ?_;intro w1 aH aB;replace aL:=aL.other aB yH;replace HB:=bU HB aB.1 Ff;replace aJ:=aH;clear aB aH;simp[Act.eval] at aJ);rw[mN];refine(H3.out _ (HW.out.below HB.out HW.out.size)).mono ?_;rintro e w5 ⟨rfl,aM⟩;replace aL:=aL.below aM;replace aJ:=aJ.below aM;replace HB:=aR HB aM;clear aM;cases hs with
 |false=>have HF:Hid (splitN l={rest:=b,hasQuery:=hq,query:=query,hasFrag:=hf,frag:=frag}):=hid (by rw[HS.out];rfl);clear HS;go_wp2_with (first|(refine oT _ rfl aJ rfl (by kernel_rfl) ?_;intro w1 aH aB;replace aL:=aL.other aB yH;replace HB:=bU HB aB.1 Ff;replace aJ:=aH;clear aB aH;simp[Act.eval] at aJ)|(refine fF rfl aJ CO rfl rfl ?_)|(refine lU rfl aL rfl (by kernel_rfl) ?_;intro w1 aH aB;replace aJ:=aJ.other aB (Ne.symm yH);replace HB:=bU HB aB.1 zZ;replace aL:=aH;clear aB aH));refine bK rfl rfl aL Tryz.underlying76 rfl (by kernel_rfl) rfl ?_;exact⟨by rw[HF.out];rfl,HB.out⟩
 |true=>
  cases sc with
  |false=>have HF:Hid (splitN l={rest:=b,hasQuery:=hq,query:=query,hasFrag:=hf,frag:=frag}):=hid (by rw[HS.out];rfl);clear HS;go_wp2_with fail;refine(H4.out _).mono ?_;rintro e w' ⟨rfl,rfl⟩;go_wp2_with (first|(refine oT _ rfl aJ rfl (by kernel_rfl) ?_;intro w1 aH aB;replace aL:=aL.other aB yH;replace HB:=bU HB aB.1 Ff;replace aJ:=aH;clear aB aH;simp[Act.eval] at aJ)|(refine fF rfl aJ CO rfl rfl ?_)|(refine lU rfl aL rfl (by kernel_rfl) ?_;intro w1 aH aB;replace aJ:=aJ.other aB (Ne.symm yH);replace HB:=bU HB aB.1 zZ;replace aL:=aH;clear aB aH));refine bK rfl rfl aL Tryz.underlying76 rfl (by kernel_rfl) rfl ?_;exact⟨by rw[HF.out];rfl,HB.out⟩
  |true=>have HF:Hid (splitN l={hasScheme:=true,scheme:=lc,rest:=tail,hasQuery:=hq,query:=query,hasFrag:=hf,frag:=frag}):=hid (by rw[HS.out];rfl);clear HS;go_wp2_with fail;refine(H4.out _).mono ?_;rintro e w' ⟨rfl,rfl⟩;go_wp2_with (first|(refine oT _ rfl aJ rfl (by kernel_rfl) ?_;intro w1 aH aB;replace aL:=aL.other aB yH;replace HB:=bU HB aB.1 Ff;replace aJ:=aH;clear aB aH;simp[Act.eval] at aJ)|(refine fF rfl aJ CO rfl rfl ?_)|(refine lU rfl aL rfl (by kernel_rfl) ?_;intro w1 aH aB;replace aJ:=aJ.other aB (Ne.symm yH);replace HB:=bU HB aB.1 zZ;replace aL:=aH;clear aB aH));refine(H5.out _).mono ?_;rintro e w5 ⟨rfl,aM⟩;replace aL:=aL.below aM;replace aJ:=aJ.below aM;replace HB:=aR HB aM;clear aM;go_wp2_with (first|(refine oT _ rfl aJ rfl (by kernel_rfl) ?_;intro w1 aH aB;replace aL:=aL.other aB yH;replace HB:=bU HB aB.1 Ff;replace aJ:=aH;clear aB aH;simp[Act.eval] at aJ)|(refine fF rfl aJ CO rfl rfl ?_)|(refine lU rfl aL rfl (by kernel_rfl) ?_;intro w1 aH aB;replace aJ:=aJ.other aB (Ne.symm yH);replace HB:=bU HB aB.1 zZ;replace aL:=aH;clear aB aH));refine bK rfl rfl aL Tryz.underlying76 rfl (by kernel_rfl) rfl ?_;exact⟨by rw[HF.out];rfl,HB.out⟩
theorem yI:∀(s x y:List UInt8),xT s=some (x,y)→s=x++58::58::y∧∀j,j < x.length→Lib.occAt s [58,58] j=false:=by
 intro s;induction s with
 |nil=>intro x y h;cases h
 |cons a t ih=>
  intro x y h;cases t with
  |nil=>cases h
  |cons b t=>
   rw[xT] at h;split at h;·rename_i hab;cases h;exact⟨by rw[hab.1,hab.2];rfl,fun j hj=>absurd hj (by simp)⟩
   ·rename_i hab;cases hc:xT (b::t) with
    |none=>rw[hc] at h;cases h
    |some z=>
     obtain⟨x',y'⟩:=z;rw[hc] at h;cases h;obtain⟨h1,h2⟩:=ih x' y' hc;refine⟨by rw[h1];rfl,fun j hj=>?_⟩;cases j with
     |zero=>show(58==a&&(58==b&&_))=false;rw[Bool.eq_false_iff];intro hh;simp only[Bool.and_eq_true,beq_iff_eq] at hh;exact hab ⟨hh.1.symm,hh.2.1.symm⟩
     |succ j=>exact h2 j (by simpa using hj)
theorem Wv:∀(s:List UInt8),xT s=none→∀j,j≤s.length→Lib.occAt s [58,58] j=false:=by
 intro s;induction s with
 |nil=>intro _ j _;simp[Lib.occAt]
 |cons a t ih=>
  intro h j hj;cases t with
  |nil=>
   unfold Lib.occAt
   match j with
   |0=>show(58==a&&false)=false;simp
   |j+1=>simp
  |cons b t=>
   rw[xT] at h;split at h;·cases h
   ·rename_i hab;cases hc:xT (b::t) with
    |some z=>rw[hc] at h;cases h
    |none=>
     cases j with
     |zero=>show(58==a&&(58==b&&_))=false;rw[Bool.eq_false_iff];intro hh;simp only[Bool.and_eq_true,beq_iff_eq] at hh;exact hab ⟨hh.1.symm,hh.2.1.symm⟩
     |succ j=>exact ih hc j (by simpa using hj)
theorem adI (s:List UInt8):Lib.cut s [58,58]=match xT s with
 |none=>(s,[],false)
 |some (x,y)=>(x,y,true):=by
 unfold Lib.cut;cases hc:xT s with
 |none=>rw[Lib.index_none (Wv s hc),if_neg (by omega)]
 |some z=>
  obtain⟨x,y⟩:=z;obtain⟨h1,h2⟩:=yI s x y hc;have h3:Lib.index s [58,58]=(x.length:Int):=by refine Lib.index_first (by rw[h1];simp) ?_ h2;rw[h1];unfold Lib.occAt;simp
  rw[h3,if_pos (by omega)];simp only[Int.toNat_natCast];rw[h1];have e2:x.length+[(58:UInt8),58].length=(x++[58,58]).length:=by simp
  have e3:x++58::58::y=(x++[58,58])++y:=by simp
  rw[List.take_left,e3];rw[e2,List.drop_left]
theorem vH (s:List UInt8) (hs:s.length≤4000000000) (w:World) (hW:Laid w):
 Calls Tryz.prog 53 #[.string (aA s),.string (aA [58,58])] w fun e w'=>(match xT s with
  |none=>e= .returned (.tuple #[.string (aA s),.string (aA []),.bool false])
  |some (x,y)=>e= .returned (.tuple #[.string (aA x),.string (aA y),.bool true]))∧Below w.heap.size w w':=by
 obtain⟨m,hm⟩:=hW.max;refine(Tryz.strings_Cut (aA s) (aA [58,58]) m w (by rw[aD];omega) hm).mono ?_;rintro e w' ⟨rfl,n,rfl⟩;rw[aC,aC,adI];refine⟨?_,Bj _ _ _⟩;cases xT s<;>rfl
theorem Fg (gA gB:Nat) (ZB:Array Value) (b:Value) (w:World) (hA:Row w gA 30 ZB) (h8:ZB.size=8) (hB:Row w gB 4 #[b]) (eG:gA≠gB) (Pz:List PanicEntry):
 CallsD Tryz.prog 214 #[.pointer (some ⟨gA,0,none⟩),.pointer (some ⟨gB,0,none⟩)] (.panicking ({v:= .iface 230 (.agg #[]),recovered:=false}::Pz)) w fun e u' w'=>
  e= .returned (.tuple #[])∧u'= .panicking ({v:= .iface 230 (.agg #[]),recovered:=true}::Pz)∧Row w' gA 30 (dW [0,0,0,0,0,0,0,0])∧Row w' gB 4 #[.bool false]∧Below (min gA gB) w w':=by
 refine callsD_of_wpS Tryz.func214 rfl fun ZC cs hu=>?_;apply wpS_seq;apply wpS_region;simp[wpOpsS,go_sem,recoverD,hu,Tryz.ntmps214,Exit.thenS];refine wpS_cond (t:=true) (by simp[Act.eval,Array.replicate]) ?_;simp only[if_true];apply wpS_of_wp;apply wp_region_lit;refine aG rfl 30 _ rfl w (.agg (dW [0,0,0,0,0,0,0,0])) (by kernel_rfl) ?_;refine nG rfl 30 _ _ rfl gA (dW [0,0,0,0,0,0,0,0]) rfl rfl hA (by rw[h8];rfl) (by kernel_rfl) (by kernel_rfl) fun w1 hA1 aB=>?_;have hB1:=hB.other aB (Ne.symm eG);refine dS rfl 4 _ _ rfl gB 0 (.bool false) rfl rfl rfl hB1 rfl (by kernel_rfl) fun w2 hB2 JM=>?_;have hA2:=hA1.other JM eG;have kZ:Below (min gA gB) w w2:=(aB.1.mono (Nat.min_le_left _ _)).trans (JM.1.mono (Nat.min_le_right _ _));apply wpList_nil;simp[bodyPostS,results,Tryz.results214,Act.put];exact⟨hA2,hB2,kZ⟩
theorem DS (gA gB:Nat) (w:World):
 CallsD Tryz.prog 214 #[.pointer (some ⟨gA,0,none⟩),.pointer (some ⟨gB,0,none⟩)] .returning w fun e u' w'=>e= .returned (.tuple #[])∧u'= .returning∧w'=w:=by
 refine callsD_of_wpS Tryz.func214 rfl fun ZC cs hu=>?_;apply wpS_seq;apply wpS_region;simp[wpOpsS,go_sem,recoverD,hu,Tryz.ntmps214,Exit.thenS];refine wpS_cond (t:=false) (by simp[Act.eval,Array.replicate]) ?_;simp only[Bool.false_eq_true,if_false];refine wpS_of_wp (wp_skip ?_);cases ZC;simp_all [bodyPostS,results,Tryz.results214]
def qT:List Nat:=[0,0,0,0,0,0,0,0]
def sI (o:Option (List Nat)):Value:=match o with
 |none=> .tuple #[Pu qT,.bool false]
 |some l=> .tuple #[Pu l,.bool true]
theorem pV (w:World) (uX:Value):(Instr.alloc 30 true uX).run Tryz.prog w= .ok (.pointer (some ⟨w.heap.size,0,none⟩)) (w.alloc (.cells (dW qT) 30)):=by kernel_rfl
theorem mO (w:World) (uX:Value):(Instr.alloc 4 true uX).run Tryz.prog w= .ok (.pointer (some ⟨w.heap.size,0,none⟩)) (w.alloc (.cells #[.bool false] 4)):=by kernel_rfl
theorem Bw {s:List UInt8} {b:Bool} {l:List Nat} (h:lG s b=some l):l.length≤8:=by
 unfold lG at h;split at h;·cases h;simp
 split at h;·cases h
 ·split at h;·cases h
  ·cases h;omega
theorem SO (cur l:List Nat) (off:Nat):splice (cur.map eY) off (l.map eY)=(splice cur off l).map eY:=by simp[splice,List.map_take,List.map_drop]
theorem SP {w:World} {g:Nat} {t:TypeId} {arr:Array Value} (h:Row w g t arr) (cs:Array Value):Row (w.setRow g cs) g t cs∧mY g w (w.setRow g cs):=
 ⟨setRow_heap w g arr cs t _ h,⟨rfl,rfl,rfl,by simp[World.setRow],fun k hk=>setRow_other w g k cs (by omega)⟩,by simp[World.setRow],fun b hb=>setRow_other w g b cs hb⟩
theorem tQ {ops:Array Oper} {rest:List Oper} {o:Oper} {a:Act} {Q:Exit→Act→World→Prop} {w:World} (tJ:o.guard=none) (d s:Operand)
 (ho:o.op= .call {callee:= .builtin .copy,args:= #[d,s],argTypes:= #[219,219]}) (g off n m:Nat) (cur l:List Nat) (dp:Option Addr) (sv:Value) (base:Nat)
 (hd:a.eval d= .slice dp n m) (hdp:0 < l.length→dp=some ⟨g,off,none⟩) (hs:a.eval s=sv) (bE:rP w base sv l) (ahQ:l.length≤n) (aqD:off+l.length≤cur.length) (hR:Row w g 30 (dW cur))
 (h:∀w',Row w' g 30 (dW (splice cur off l))→mY g w w'→wpList Tryz.prog ops Q rest (a.put o.dst (goInt l.length)) w'):wpList Tryz.prog ops Q (o::rest) a w:=by
 obtain⟨A,c,rfl⟩:=bE.len;by_cases h0:l.length=0
 ·obtain rfl:l=[]:=List.eq_nil_of_length_eq_zero h0;refine wpList_copy_nothing tJ d s 219 219 ho 29 Tryz.underlying219 (by kernel_rfl) dp A n m 0 c hd hs (by simp) (h w ?_ ⟨Below.refl _ _,rfl,fun _ _=>rfl⟩);have:splice cur off []=cur:=by simp[splice]
  rw[this];exact hR
 ·obtain rfl:=hdp (by omega);rcases bE.cells with⟨_,rfl⟩|⟨gs,cc,hv,hg1,hlc,aW⟩;·exact absurd rfl h0
  ·injection hv with Dx Yo;subst Dx;have AA:∀j v,(l.map eY)[j]? =some v→w.cell? ((⟨gs,0,none⟩:Addr).add j)=some v:=by intro j v hv;rw[List.getElem?_map] at hv;obtain⟨x,hx,rfl⟩:=Option.map_eq_some_iff.1 hv;obtain⟨hj,rfl⟩:=List.getElem?_eq_some_iff.1 hx;rw[CG];exact aW j hj
   have akT:∀v∈l.map eY,v.oneCell'=true:=by intro v hv;obtain⟨x,_,rfl⟩:=List.mem_map.1 hv;rfl
   obtain⟨r1,r2⟩:=SP hR (dW (splice cur off l));have hlen:goInt (l.map eY).length=goInt l.length:=by rw[List.length_map]
   refine wpList_copy_own tJ d s 219 219 ho 29 Tryz.underlying219 (by kernel_rfl) g off n m ⟨gs,0,none⟩ l.length c hd hs (dW cur) 30 hR (l.map eY) (by rw[List.length_map];exact(Nat.min_eq_left ahQ).symm) AA (by simp[dW];omega) akT ?_;rw[hlen];have e:((dW cur).toList.take off++(l.map eY++(dW cur).toList.drop (off+(l.map eY).length))).toArray=dW (splice cur off l):=by unfold dW;rw[←SO];rfl
   rw[e];exact h _ r1 r2
theorem PA (l:List Nat):(dW l).all (·.oneCell')=true:=by rw[Array.all_eq_true_iff_forall_mem];intro v hv;simp only[dW,List.mem_toArray,List.mem_map] at hv;obtain⟨x,_,rfl⟩:=hv;rfl
theorem Lm (g:Nat) (W:World):(Instr.sliceAt 30 (.pointer (some ⟨g,0,none⟩)) none none none).run Tryz.prog W= .ok (.slice (some ⟨g,0,none⟩) 8 8) W:=by
 have hl:Tryz.prog.arrayLen 30=8:=by kernel_rfl
 have hu:Tryz.prog.underlying 30=some (.array (Tryz.prog.arrayLen 30) (Tryz.prog.elem 30)):=by kernel_rfl
 have hs:(sizeOf (Tryz.prog.elem 30)).run Tryz.prog W= .ok 1 W:=by kernel_rfl
 rw[run_sliceAt_array_all W 30 ⟨g,0,none⟩ hu,hs,hl];simp only[Result.andThen,slicedAt];rw[if_neg (by decide),CG]
theorem results209 {tmps:Array Value} {gA gB:Nat} {l:List Nat} {b:Bool} {w:World} (h2:tmps.getD 2 undef= .pointer (some ⟨gA,0,none⟩)) (h3:tmps.getD 3 undef= .pointer (some ⟨gB,0,none⟩)) (h8:l.length=8) (hA:Row w gA 30 (dW l)) (hB:Row w gB 4 #[.bool b]):
 (results Tryz.f209 tmps).run Tryz.prog w= .ok (.tuple #[Pu l,.bool b]) w:=by
 have hr:Tryz.f209.results= #[.cell 2 30,.cell 3 4]:=by kernel_rfl
 have hl:=run_loadVar_row (P:=Tryz.prog) w gA 30 30 (dW l) (0,0) _ hA Tryz.underlying30 rfl (by rw[show(dW l).size=8 by simp[dW,h8]];kernel_rfl);have hc:w.cell? ⟨gB,0,none⟩=some (.bool b):=hB.cell rfl;have h2':tmps[2]?.getD undef= .pointer (some ⟨gA,0,none⟩):=by simpa using h2
 have h3':tmps[3]?.getD undef= .pointer (some ⟨gB,0,none⟩):=by simpa using h3
 have cG:(loadVar 4 ⟨gB,0,none⟩).run Tryz.prog w= .ok (.bool b) w:=by simp[loadVar,go_sem,hc]
 simp[results,hr,h2',h3',asAddr,hl,cG];rfl
theorem PB (s:List UInt8) (hc:xT s=none) (jK:lG s true=none) (hs:s.length≤1000000000) (w:World) (hW:Laid w):Calls Tryz.prog 209 #[.string (aA s)] w fun e w'=>e= .returned (sI (gM s))∧Below w.heap.size w w':=by
 have hmf:∀(fn:Fn) (first cap:Array Value) (w:World),(Instr.makeFunc fn first cap).run Tryz.prog w= .ok (.func fn first cap) w:=fun _ _ _ _=>rfl;have HC:=hid (fun W hW=>vH s (by omega) W hW);have HW:=hid hW;have HF:Hid (gM s=none):=hid (by unfold gM;rw[hc];simp only[jK]);rw[hc] at HC;simp only at HC;have HR:=hid (fun W hW=>qS s true hs W hW);rw[jK] at HR;simp only[iC] at HR;unfold ET at HR;clear hW hc jK
 go_enter_defers Tryz.func209,Tryz.ntmps209
 go_wp2_with (first|(refine eX rfl (pV _) ?_;intro gA w1 aL hA)|(refine eX rfl (mO _) ?_;intro gB w2 aJ hB));obtain⟨Fb,xH,Fc⟩:=hA.out;obtain⟨Fe,rQ,GM⟩:=hB.out;have yH:gA≠gB:=by omega
 have Ff:w.heap.size≤gB:=by omega
 have zZ:w.heap.size≤gA:=by omega
 have HB:=hid (xH.trans (rQ.mono (by omega)));replace aL:=aL.below rQ;clear xH rQ Fb Fe Fc GM hA hB;refine(HC.out _ (HW.out.below HB.out HW.out.size)).mono ?_;rintro e w3 ⟨rfl,cF⟩;replace aL:=aL.below cF;replace aJ:=aJ.below cF;replace HB:=aR HB cF;clear cF;go_wp2_with fail;refine(HR.out _ (HW.out.below HB.out HW.out.size)).mono ?_;rintro e w4 ⟨rfl,cG⟩;replace aL:=aL.below cG;replace aJ:=aJ.below cG;replace HB:=aR HB cG;clear cG;go_wp2_with fail;refine leaves_cons (f:=214) (args:= #[.pointer (some ⟨gA,0,none⟩),.pointer (some ⟨gB,0,none⟩)]) (by simp) (by simp[go_sem]) ?_;refine(Fg gA gB _ _ _ aL rfl aJ yH []).mono ?_;rintro e u' w9 ⟨rfl,rfl,hA9,hB9,sJ⟩;exact⟨_,results209 rfl rfl rfl hA9 hB9,by rw[HF.out];rfl,HB.out.trans (sJ.mono (by omega))⟩
theorem PC (s:List UInt8) (l:List Nat) (hc:xT s=none) (jK:lG s true=some l) (h8:l.length≠8) (hs:s.length≤1000000000) (w:World) (hW:Laid w):Calls Tryz.prog 209 #[.string (aA s)] w fun e w'=>e= .returned (sI (gM s))∧Below w.heap.size w w':=by
 have hmf:∀(fn:Fn) (first cap:Array Value) (w:World),(Instr.makeFunc fn first cap).run Tryz.prog w= .ok (.func fn first cap) w:=fun _ _ _ _=>rfl;have HC:=hid (fun W hW=>vH s (by omega) W hW);have HW:=hid hW;have HF:Hid (gM s=none):=hid (by unfold gM;rw[hc];simp only[jK];rw[if_neg h8]);rw[hc] at HC;simp only at HC;have HR:=hid (fun W hW=>qS s true hs W hW);rw[jK] at HR;simp only[iC] at HR;have Uh:=Bw jK;clear hW hc jK
 go_enter_defers Tryz.func209,Tryz.ntmps209
 go_wp2_with (first|(refine eX rfl (pV _) ?_;intro gA w1 aL hA)|(refine eX rfl (mO _) ?_;intro gB w2 aJ hB));obtain⟨Fb,xH,Fc⟩:=hA.out;obtain⟨Fe,rQ,GM⟩:=hB.out;have yH:gA≠gB:=by omega
 have Ff:w.heap.size≤gB:=by omega
 have zZ:w.heap.size≤gA:=by omega
 have HB:=hid (xH.trans (rQ.mono (by omega)));replace aL:=aL.below rQ;clear xH rQ Fb Fe Fc GM hA hB;refine(HC.out _ (HW.out.below HB.out HW.out.size)).mono ?_;rintro e w3 ⟨rfl,cF⟩;replace aL:=aL.below cF;replace aJ:=aJ.below cF;replace HB:=aR HB cF;clear cF;go_wp2_with fail;refine(HR.out _ (HW.out.below HB.out HW.out.size)).mono ?_;rintro e w4 ⟨⟨v4,rfl,bE⟩,cG⟩;replace aL:=aL.below cG;replace aJ:=aJ.below cG;replace HB:=aR HB cG;obtain⟨A,c,hv⟩:=bE.len;subst hv;have hd:((l.length:Int)!=8)=true:=by simp;omega
 clear cG h8 bE;go_wp2_with (first|(refine oT _ rfl aJ rfl (by kernel_rfl) ?_;intro w1 aH aB;replace aL:=aL.other aB yH;replace HB:=bU HB aB.1 Ff;replace aJ:=aH;clear aB aH;simp[Act.eval] at aJ)|(refine aG rfl 30 _ rfl _ (.agg (dW qT)) (by kernel_rfl) ?_)|(refine lU rfl aL rfl (by kernel_rfl) ?_;intro w1 aH aB;replace aJ:=aJ.other aB (Ne.symm yH);replace HB:=bU HB aB.1 zZ;replace aL:=aH;clear aB aH));refine leaves_cons (f:=214) (args:= #[.pointer (some ⟨gA,0,none⟩),.pointer (some ⟨gB,0,none⟩)]) (by simp) (by simp[go_sem]) ?_;refine(DS gA gB _).mono ?_;rintro e u' w9 ⟨rfl,rfl,rfl⟩;exact⟨_,results209 rfl rfl rfl aL aJ,by rw[HF.out];rfl,HB.out⟩
theorem PD (s:List UInt8) (l:List Nat) (hc:xT s=none) (jK:lG s true=some l) (h8:l.length=8) (hs:s.length≤1000000000) (w:World) (hW:Laid w):Calls Tryz.prog 209 #[.string (aA s)] w fun e w'=>e= .returned (sI (gM s))∧Below w.heap.size w w':=by
 have hmf:∀(fn:Fn) (first cap:Array Value) (w:World),(Instr.makeFunc fn first cap).run Tryz.prog w= .ok (.func fn first cap) w:=fun _ _ _ _=>rfl;have HC:=hid (fun W hW=>vH s (by omega) W hW);have HW:=hid hW;have HF:Hid (gM s=some l):=hid (by unfold gM;rw[hc];simp only[jK];rw[if_pos h8]);rw[hc] at HC;simp only at HC;have HR:=hid (fun W hW=>qS s true hs W hW);rw[jK] at HR;simp only[iC] at HR;clear hW hc jK
 go_enter_defers Tryz.func209,Tryz.ntmps209
 go_wp2_with (first|(refine eX rfl (pV _) ?_;intro gA w1 aL hA)|(refine eX rfl (mO _) ?_;intro gB w2 aJ hB));obtain⟨Fb,xH,Fc⟩:=hA.out;obtain⟨Fe,rQ,GM⟩:=hB.out;have yH:gA≠gB:=by omega
 have Ff:w.heap.size≤gB:=by omega
 have zZ:w.heap.size≤gA:=by omega
 have HB:=hid (xH.trans (rQ.mono (by omega)));replace aL:=aL.below rQ;clear xH rQ Fb Fe Fc GM hA hB;refine(HC.out _ (HW.out.below HB.out HW.out.size)).mono ?_;rintro e w3 ⟨rfl,cF⟩;replace aL:=aL.below cF;replace aJ:=aJ.below cF;replace HB:=aR HB cF;clear cF;go_wp2_with fail;refine(HR.out _ (HW.out.below HB.out HW.out.size)).mono ?_;rintro e w4 ⟨⟨v4,rfl,bE⟩,cG⟩;replace aL:=aL.below cG;replace aJ:=aJ.below cG;replace HB:=aR HB cG;obtain⟨A,c,hv⟩:=bE.len;subst hv;have hd:((l.length:Int)!=8)=false:=by simp;omega
 have tE:=fun W=>Lm gA W;have G0:splice qT 0 l=l:=by unfold splice;rw[List.drop_eq_nil_of_le (by show 8≤_;omega)];simp
 have SZ:Hid ((dW l).size=8):=hid (by simp[dW];omega);have SZ2:=SZ;have H30:Hid ((Tryz.prog.info? 30).map (·.size)=some (dW l).size):=hid (by rw[SZ.out];kernel_rfl);have ahR:Hid ((dW l).all (·.oneCell')=true):=hid (PA _);have H8:=hid h8;clear cG h8;go_wp2_with (first|(refine tQ rfl _ _ rfl gA 0 8 8 qT l (some ⟨gA,0,none⟩) _ _ rfl (fun _=>rfl) rfl bE (Nat.le_of_eq H8.out) (by rw[H8.out];decide) aL ?_;intro w5 pJ BZ;rw[G0] at pJ;replace aL:=pJ;replace aJ:=aJ.other BZ (Ne.symm yH);replace HB:=bU HB BZ.1 zZ;clear BZ pJ G0 bE)|(refine oT _ rfl aJ rfl (by kernel_rfl) ?_;intro w1 aH aB;replace aL:=aL.other aB yH;replace HB:=bU HB aB.1 Ff;replace aJ:=aH;clear aB aH;simp[Act.eval] at aJ)|(refine qR rfl 30 _ rfl _ rfl aL _ Tryz.underlying30 rfl H30.out ?_)|(refine nG rfl 30 _ _ rfl _ _ rfl rfl aL (by rw[SZ.out];rfl) (by rw[SZ2.out];kernel_rfl) ahR.out ?_;intro w1 aH aB;replace aJ:=aJ.other aB (Ne.symm yH);replace HB:=bU HB aB.1 zZ;replace aL:=aH;clear aB aH));refine leaves_cons (f:=214) (args:= #[.pointer (some ⟨gA,0,none⟩),.pointer (some ⟨gB,0,none⟩)]) (by simp) (by simp[go_sem]) ?_;refine(DS gA gB _).mono ?_;rintro e u' w9 ⟨rfl,rfl,rfl⟩;exact⟨_,results209 rfl rfl H8.out aL aJ,by rw[HF.out];rfl,HB.out⟩
theorem SQ (l:List Nat) (h:l.length≤8):splice qT 0 l=l++List.replicate (8 - l.length) 0:=by unfold splice;rw[List.take_zero,List.nil_append,Nat.zero_add];congr 1;show(List.replicate 8 0).drop l.length=_;rw[List.drop_replicate]
theorem SR (l r:List Nat) (h:l.length+r.length≤8):splice (l++List.replicate (8 - l.length) 0) (8 - r.length) r=l++(List.replicate (8 - l.length - r.length) 0++r):=by
 unfold splice;rw[List.take_append,List.take_of_length_le (by omega),List.take_replicate,List.drop_eq_nil_of_le (by simp;omega)];have e:min (8 - r.length - l.length) (8 - l.length)=8 - l.length - r.length:=by omega
 rw[e];simp
theorem I8 (g k n:Nat) (h:k+n=8) (W:World):∃dp,(0 < n→dp=some ⟨g,k,none⟩)∧(Instr.sliceAt 30 (.pointer (some ⟨g,0,none⟩)) (some (.int .i64 (k:Int))) none none).run Tryz.prog W= .ok (.slice dp n n) W:=by
 have hl:Tryz.prog.arrayLen 30=8:=by kernel_rfl
 have hu:Tryz.prog.underlying 30=some (.array (Tryz.prog.arrayLen 30) (Tryz.prog.elem 30)):=by kernel_rfl
 have hs:(sizeOf (Tryz.prog.elem 30)).run Tryz.prog W= .ok 1 W:=by kernel_rfl
 rw[run_sliceAt_array_l W 30 ⟨g,0,none⟩ hu .i64 (k:Int) (by omega) (by rw[hl];omega),hs,hl];have e2:8 - (k:Int).toNat=n:=by omega
 simp only[Result.andThen,slicedAt,e2];refine⟨_,fun hn=>?_,rfl⟩;rw[if_neg (by omega),CG];simp
theorem MW (g k n:Nat) (h:k+n=8):∃dp,(0 < n→dp=some ⟨g,k,none⟩)∧∀W,(Instr.sliceAt 30 (.pointer (some ⟨g,0,none⟩)) (some (.int .i64 (k:Int))) none none).run Tryz.prog W= .ok (.slice dp n n) W:=by
 refine⟨if 8=k then some ⟨g,0,none⟩ else some ⟨g,k,none⟩,fun hn=>by rw[if_neg (by omega)],fun W=>?_⟩;obtain⟨dp,h1,h2⟩:=I8 g k n h W;by_cases h8:8=k
 ·have hl:Tryz.prog.arrayLen 30=8:=by kernel_rfl
  have hu:Tryz.prog.underlying 30=some (.array (Tryz.prog.arrayLen 30) (Tryz.prog.elem 30)):=by kernel_rfl
  have hs:(sizeOf (Tryz.prog.elem 30)).run Tryz.prog W= .ok 1 W:=by kernel_rfl
  rw[run_sliceAt_array_l W 30 ⟨g,0,none⟩ hu .i64 (k:Int) (by omega) (by rw[hl];omega),hs,hl];have e2:8 - (k:Int).toNat=n:=by omega
  have e3:8 - 8=0:=rfl;simp only[Result.andThen,slicedAt,e2,if_pos h8];rw[if_pos (by omega)]
 ·rw[if_neg h8,←h1 (by omega)];exact h2
theorem PE (s:List UInt8) (x y:List UInt8) (hc:xT s=some (x,y)) (hx:lG x false=none) (hs:s.length≤1000000000) (w:World) (hW:Laid w):Calls Tryz.prog 209 #[.string (aA s)] w fun e w'=>e= .returned (sI (gM s))∧Below w.heap.size w w':=by
 have hmf:∀(fn:Fn) (first cap:Array Value) (w:World),(Instr.makeFunc fn first cap).run Tryz.prog w= .ok (.func fn first cap) w:=fun _ _ _ _=>rfl;have HC:=hid (fun W hW=>vH s (by omega) W hW);have HW:=hid hW;have HF:Hid (gM s=none):=hid (by unfold gM;rw[hc];simp only[hx]);rw[hc] at HC;simp only at HC;have Lb:=(yI s x y hc).1;have Yy:x.length≤s.length∧y.length≤s.length:=by rw[Lb];simp;omega
 have HX:=hid (fun W hW=>qS x false (by omega) W hW);have HY:=hid (fun W hW=>qS y true (by omega) W hW);clear Lb Yy;rw[hx] at HX;simp only[iC] at HX;unfold ET at HX;clear hW hc hx
 go_enter_defers Tryz.func209,Tryz.ntmps209
 go_wp2_with (first|(refine eX rfl (pV _) ?_;intro gA w1 aL hA)|(refine eX rfl (mO _) ?_;intro gB w2 aJ hB));obtain⟨Fb,xH,Fc⟩:=hA.out;obtain⟨Fe,rQ,GM⟩:=hB.out;have yH:gA≠gB:=by omega
 have Ff:w.heap.size≤gB:=by omega
 have zZ:w.heap.size≤gA:=by omega
 have HB:=hid (xH.trans (rQ.mono (by omega)));replace aL:=aL.below rQ;clear xH rQ Fb Fe Fc GM hA hB;refine(HC.out _ (HW.out.below HB.out HW.out.size)).mono ?_;rintro e w3 ⟨rfl,cF⟩;replace aL:=aL.below cF;replace aJ:=aJ.below cF;replace HB:=aR HB cF;clear cF;go_wp2_with fail;refine(HX.out _ (HW.out.below HB.out HW.out.size)).mono ?_;rintro e w4 ⟨rfl,cG⟩;replace aL:=aL.below cG;replace aJ:=aJ.below cG;replace HB:=aR HB cG;clear cG;go_wp2_with fail;refine leaves_cons (f:=214) (args:= #[.pointer (some ⟨gA,0,none⟩),.pointer (some ⟨gB,0,none⟩)]) (by simp) (by simp[go_sem]) ?_;refine(Fg gA gB _ _ _ aL rfl aJ yH []).mono ?_;rintro e u' w9 ⟨rfl,rfl,hA9,hB9,sJ⟩;exact⟨_,results209 rfl rfl rfl hA9 hB9,by rw[HF.out];rfl,HB.out.trans (sJ.mono (by omega))⟩
theorem PF (s:List UInt8) (x y:List UInt8) (l:List Nat) (hc:xT s=some (x,y)) (hx:lG x false=some l) (hy:lG y true=none) (hs:s.length≤1000000000) (w:World) (hW:Laid w):Calls Tryz.prog 209 #[.string (aA s)] w fun e w'=>e= .returned (sI (gM s))∧Below w.heap.size w w':=by
 have hmf:∀(fn:Fn) (first cap:Array Value) (w:World),(Instr.makeFunc fn first cap).run Tryz.prog w= .ok (.func fn first cap) w:=fun _ _ _ _=>rfl;have HC:=hid (fun W hW=>vH s (by omega) W hW);have HW:=hid hW;have HF:Hid (gM s=none):=hid (by unfold gM;rw[hc];simp only[hx,hy]);rw[hc] at HC;simp only at HC;have Lb:=(yI s x y hc).1;have Yy:x.length≤s.length∧y.length≤s.length:=by rw[Lb];simp;omega
 have HX:=hid (fun W hW=>qS x false (by omega) W hW);have HY:=hid (fun W hW=>qS y true (by omega) W hW);clear Lb Yy;rw[hx] at HX;rw[hy] at HY;simp only[iC] at HX HY;unfold ET at HY;clear hW hc hx hy
 go_enter_defers Tryz.func209,Tryz.ntmps209
 go_wp2_with (first|(refine eX rfl (pV _) ?_;intro gA w1 aL hA)|(refine eX rfl (mO _) ?_;intro gB w2 aJ hB));obtain⟨Fb,xH,Fc⟩:=hA.out;obtain⟨Fe,rQ,GM⟩:=hB.out;have yH:gA≠gB:=by omega
 have Ff:w.heap.size≤gB:=by omega
 have zZ:w.heap.size≤gA:=by omega
 have HB:=hid (xH.trans (rQ.mono (by omega)));replace aL:=aL.below rQ;clear xH rQ Fb Fe Fc GM hA hB;refine(HC.out _ (HW.out.below HB.out HW.out.size)).mono ?_;rintro e w3 ⟨rfl,cF⟩;replace aL:=aL.below cF;replace aJ:=aJ.below cF;replace HB:=aR HB cF;clear cF;go_wp2_with fail;refine(HX.out _ (HW.out.below HB.out HW.out.size)).mono ?_;rintro e w5 ⟨⟨v4,rfl,bE⟩,aM⟩;replace aL:=aL.below aM;replace aJ:=aJ.below aM;replace HB:=aR HB aM;clear aM;go_wp2_with fail;refine(HY.out _ (HW.out.below HB.out HW.out.size)).mono ?_;rintro e w4 ⟨rfl,cG⟩;replace aL:=aL.below cG;replace aJ:=aJ.below cG;replace HB:=aR HB cG;clear cG;go_wp2_with fail;refine leaves_cons (f:=214) (args:= #[.pointer (some ⟨gA,0,none⟩),.pointer (some ⟨gB,0,none⟩)]) (by simp) (by simp[go_sem]) ?_;refine(Fg gA gB _ _ _ aL rfl aJ yH []).mono ?_;rintro e u' w9 ⟨rfl,rfl,hA9,hB9,sJ⟩;exact⟨_,results209 rfl rfl rfl hA9 hB9,by rw[HF.out];rfl,HB.out.trans (sJ.mono (by omega))⟩
theorem PG (s:List UInt8) (x y:List UInt8) (l r:List Nat) (hc:xT s=some (x,y)) (hx:lG x false=some l) (hy:lG y true=some r) (h8:8≤l.length+r.length) (hs:s.length≤1000000000) (w:World) (hW:Laid w):Calls Tryz.prog 209 #[.string (aA s)] w fun e w'=>e= .returned (sI (gM s))∧Below w.heap.size w w':=by
 have hmf:∀(fn:Fn) (first cap:Array Value) (w:World),(Instr.makeFunc fn first cap).run Tryz.prog w= .ok (.func fn first cap) w:=fun _ _ _ _=>rfl;have HC:=hid (fun W hW=>vH s (by omega) W hW);have HW:=hid hW;have HF:Hid (gM s=none):=hid (by unfold gM;rw[hc];simp only[hx,hy];rw[if_pos h8]);rw[hc] at HC;simp only at HC;have Uh:=Bw hx;have UB:=Bw hy;have Lb:=(yI s x y hc).1;have Yy:x.length≤s.length∧y.length≤s.length:=by rw[Lb];simp;omega
 have HX:=hid (fun W hW=>qS x false (by omega) W hW);have HY:=hid (fun W hW=>qS y true (by omega) W hW);clear Lb Yy;rw[hx] at HX;rw[hy] at HY;simp only[iC] at HX HY;clear hW hc hx hy
 go_enter_defers Tryz.func209,Tryz.ntmps209
 go_wp2_with (first|(refine eX rfl (pV _) ?_;intro gA w1 aL hA)|(refine eX rfl (mO _) ?_;intro gB w2 aJ hB));obtain⟨Fb,xH,Fc⟩:=hA.out;obtain⟨Fe,rQ,GM⟩:=hB.out;have yH:gA≠gB:=by omega
 have Ff:w.heap.size≤gB:=by omega
 have zZ:w.heap.size≤gA:=by omega
 have HB:=hid (xH.trans (rQ.mono (by omega)));replace aL:=aL.below rQ;clear xH rQ Fb Fe Fc GM hA hB;refine(HC.out _ (HW.out.below HB.out HW.out.size)).mono ?_;rintro e w3 ⟨rfl,cF⟩;replace aL:=aL.below cF;replace aJ:=aJ.below cF;replace HB:=aR HB cF;clear cF;go_wp2_with fail;refine(HX.out _ (HW.out.below HB.out HW.out.size)).mono ?_;rintro e w5 ⟨⟨v5,rfl,At⟩,aM⟩;replace aL:=aL.below aM;replace aJ:=aJ.below aM;replace HB:=aR HB aM;go_wp2_with fail;refine(HY.out _ (HW.out.below HB.out HW.out.size)).mono ?_;rintro e w6 ⟨⟨v6,rfl,Cr⟩,fH⟩;replace aL:=aL.below fH;replace aJ:=aJ.below fH;replace HB:=aR HB fH;replace At:=At.below fH;obtain⟨A,c,hv⟩:=At.len;subst hv;obtain⟨A',c',Ve⟩:=Cr.len;subst Ve;clear aM fH;have hd:decide ((8:Int)≤(l.length:Int)+(r.length:Int))=true:=by simp;omega
 clear At Cr h8;go_wp2_with (first|(refine oT _ rfl aJ rfl (by kernel_rfl) ?_;intro w1 aH aB;replace aL:=aL.other aB yH;replace HB:=bU HB aB.1 Ff;replace aJ:=aH;clear aB aH;simp[Act.eval] at aJ)|(refine aG rfl 30 _ rfl _ (.agg (dW qT)) (by kernel_rfl) ?_)|(refine lU rfl aL rfl (by kernel_rfl) ?_;intro w1 aH aB;replace aJ:=aJ.other aB (Ne.symm yH);replace HB:=bU HB aB.1 zZ;replace aL:=aH;clear aB aH));refine leaves_cons (f:=214) (args:= #[.pointer (some ⟨gA,0,none⟩),.pointer (some ⟨gB,0,none⟩)]) (by simp) (by simp[go_sem]) ?_;refine(DS gA gB _).mono ?_;rintro e u' w9 ⟨rfl,rfl,rfl⟩;exact⟨_,results209 rfl rfl rfl aL aJ,by rw[HF.out];rfl,HB.out⟩
theorem rP.uO {w w':World} {base g:Nat} {v:Value} {l:List Nat} (h:rP w base v l) (he:mY g w w') (hg:g < base):rP w' base v l:=by
 obtain⟨h1,h2⟩:=h;refine⟨h1,?_⟩;rcases h2 with h2|⟨b,cap,cur,hv,hb,hh,r⟩;·exact .inl h2
 ·exact .inr ⟨b,cap,cur,hv,hb,by rw[he.2.2 b (by omega)];exact hh,r⟩
theorem PH (s:List UInt8) (x y:List UInt8) (l r:List Nat) (hc:xT s=some (x,y)) (hx:lG x false=some l) (hy:lG y true=some r) (h8:l.length+r.length < 8) (hs:s.length≤1000000000) (w:World) (hW:Laid w):Calls Tryz.prog 209 #[.string (aA s)] w fun e w'=>e= .returned (sI (gM s))∧Below w.heap.size w w':=by
 have hmf:∀(fn:Fn) (first cap:Array Value) (w:World),(Instr.makeFunc fn first cap).run Tryz.prog w= .ok (.func fn first cap) w:=fun _ _ _ _=>rfl;have HC:=hid (fun W hW=>vH s (by omega) W hW);have HW:=hid hW;have HF:Hid (gM s=some (l++(List.replicate (8 - l.length - r.length) 0++r))):=hid (by unfold gM;rw[hc];simp only[hx,hy];rw[if_neg (by omega)]);rw[hc] at HC;simp only at HC;have Uh:=Bw hx;have UB:=Bw hy;have Lb:=(yI s x y hc).1;have Yy:x.length≤s.length∧y.length≤s.length:=by rw[Lb];simp;omega
 have HX:=hid (fun W hW=>qS x false (by omega) W hW);have HY:=hid (fun W hW=>qS y true (by omega) W hW);clear Lb Yy;rw[hx] at HX;rw[hy] at HY;simp only[iC] at HX HY;clear hW hc hx hy
 go_enter_defers Tryz.func209,Tryz.ntmps209
 go_wp2_with (first|(refine eX rfl (pV _) ?_;intro gA w1 aL hA)|(refine eX rfl (mO _) ?_;intro gB w2 aJ hB));obtain⟨Fb,xH,Fc⟩:=hA.out;obtain⟨Fe,rQ,GM⟩:=hB.out;have yH:gA≠gB:=by omega
 have Ff:w.heap.size≤gB:=by omega
 have zZ:w.heap.size≤gA:=by omega
 have HB:=hid (xH.trans (rQ.mono (by omega)));replace aL:=aL.below rQ;clear xH rQ Fb Fe Fc GM hA hB;refine(HC.out _ (HW.out.below HB.out HW.out.size)).mono ?_;rintro e w3 ⟨rfl,cF⟩;replace aL:=aL.below cF;replace aJ:=aJ.below cF;replace HB:=aR HB cF;clear cF;go_wp2_with fail;refine(HX.out _ (HW.out.below HB.out HW.out.size)).mono ?_;rintro e w5 ⟨⟨v5,rfl,At⟩,aM⟩;have akU:=aL.lt;replace At:=At.mono (Nat.succ_le_of_lt akU);replace aL:=aL.below aM;replace aJ:=aJ.below aM;replace HB:=aR HB aM;clear akU;go_wp2_with fail;refine(HY.out _ (HW.out.below HB.out HW.out.size)).mono ?_;rintro e w6 ⟨⟨v6,rfl,Cr⟩,fH⟩;have akV:=aL.lt;replace Cr:=Cr.mono (Nat.succ_le_of_lt akV);replace aL:=aL.below fH;replace aJ:=aJ.below fH;replace HB:=aR HB fH;replace At:=At.below fH;obtain⟨A,c,hv⟩:=At.len;subst hv;obtain⟨A',c',Ve⟩:=Cr.len;subst Ve;clear aM fH akV;have hd:decide ((8:Int)≤(l.length:Int)+(r.length:Int))=false:=by simp;omega
 have tE:=fun W=>Lm gA W;obtain⟨k,hk⟩:∃k,k=8 - r.length:=⟨_,rfl⟩;obtain⟨dp,hdp,JP⟩:=MW gA k r.length (by omega);have hkw:IntKind.i64.wrap ((8:Int) - (r.length:Int))=(k:Int):=by rw[IntWalk.i64_in _ (by omega)];omega
 have akW:=hid (SQ l Uh);have ahS:Hid (splice (l++List.replicate (8 - l.length) 0) k r=l++(List.replicate (8 - l.length - r.length) 0++r)):=hid (by rw[hk];exact SR l r (by omega));obtain⟨m1,VD⟩:∃m1,m1=l++List.replicate (8 - l.length) 0:=⟨_,rfl⟩;obtain⟨m2,Ro⟩:∃m2,m2=l++(List.replicate (8 - l.length - r.length) 0++r):=⟨_,rfl⟩;have anT:m1.length=8:=by rw[VD];simp;omega
 have akX:m2.length=8:=by rw[Ro];simp;omega
 rw[←Ro] at HF ahS;rw[←VD] at akW ahS;have HK:Hid (k+r.length≤m1.length):=hid (by omega);have HL0:Hid (0+l.length≤qT.length):=hid (by show 0+l.length≤8;omega);have SZ:Hid ((dW m2).size=8):=hid (by simp[dW];omega);have SZ2:=SZ;have H30:Hid ((Tryz.prog.info? 30).map (·.size)=some (dW m2).size):=hid (by rw[SZ.out];kernel_rfl);have ahR:Hid ((dW m2).all (·.oneCell')=true):=hid (PA _);have H8:=hid akX;have HDP:=hid hdp;have HLL:=hid Uh;clear VD Ro hk h8 anT akX hdp;go_wp2_with (first|(refine tQ rfl _ _ rfl gA 0 8 8 qT l (some ⟨gA,0,none⟩) _ _ rfl (fun _=>rfl) rfl At HLL.out HL0.out aL ?_;intro w5 pJ BZ;rw[akW.out] at pJ;replace aL:=pJ;replace aJ:=aJ.other BZ (Ne.symm yH);replace HB:=bU HB BZ.1 zZ;replace Cr:=Cr.uO BZ (Nat.lt_succ_self _);clear BZ pJ At)|(refine tQ rfl _ _ rfl gA k r.length r.length m1 r dp _ _ rfl HDP.out rfl Cr (Nat.le_refl _) HK.out aL ?_;intro w5 pJ BZ;rw[ahS.out] at pJ;replace aL:=pJ;replace aJ:=aJ.other BZ (Ne.symm yH);replace HB:=bU HB BZ.1 zZ;clear BZ pJ Cr)|(refine oT _ rfl aJ rfl (by kernel_rfl) ?_;intro w1 aH aB;replace aL:=aL.other aB yH;replace HB:=bU HB aB.1 Ff;replace aJ:=aH;clear aB aH;simp[Act.eval] at aJ)|(refine qR rfl 30 _ rfl _ rfl aL _ Tryz.underlying30 rfl H30.out ?_)|(refine nG rfl 30 _ _ rfl _ _ rfl rfl aL (by rw[SZ.out];rfl) (by rw[SZ2.out];kernel_rfl) ahR.out ?_;intro w1 aH aB;replace aJ:=aJ.other aB (Ne.symm yH);replace HB:=bU HB aB.1 zZ;replace aL:=aH;clear aB aH));refine leaves_cons (f:=214) (args:= #[.pointer (some ⟨gA,0,none⟩),.pointer (some ⟨gB,0,none⟩)]) (by simp) (by simp[go_sem]) ?_;refine(DS gA gB _).mono ?_;rintro e u' w9 ⟨rfl,rfl,rfl⟩;exact⟨_,results209 rfl rfl H8.out aL aJ,by rw[HF.out];rfl,HB.out⟩
theorem Ww (s:List UInt8) (hs:s.length≤1000000000) (w:World) (hW:Laid w):Calls Tryz.prog 209 #[.string (aA s)] w fun e w'=>e= .returned (sI (gM s))∧Below w.heap.size w w':=by
 cases hc:xT s with
 |none=>
  cases hr:lG s true with
  |none=>exact PB s hc hr hs w hW
  |some l=>
   by_cases h8:l.length=8;·exact PD s l hc hr h8 hs w hW
   ·exact PC s l hc hr h8 hs w hW
 |some z=>
  obtain⟨x,y⟩:=z;cases hx:lG x false with
  |none=>exact PE s x y hc hx hs w hW
  |some l=>
   cases hy:lG y true with
   |none=>exact PF s x y l hc hx hy hs w hW
   |some r=>
    by_cases h8:8≤l.length+r.length;·exact PG s x y l r hc hx hy h8 hs w hW
    ·exact PH s x y l r hc hx hy (by omega) hs w hW
end Go.Proofs.YtmgmclkplepapaaGreatDoor
