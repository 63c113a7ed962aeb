/- Part of the proof of TopBoundsUptoCardSaid. Conditions: none beyond the statement. -/
import Derived.BigQuiet
import Derived.Test.YtmgmclkplepapaaGreatDoorPt27
set_option linter.all false
set_option maxRecDepth 100000
set_option maxHeartbeats 64000000
namespace Go.Proofs.YtmgmclkplepapaaGreatDoor
open Go.RowKit
def cL (h:lK):Array Value:=(Value.int .i64 (h.kind:Int):: .string (aA h.name):: .int .u32 (h.four:Int)::h.six.map eY).toArray
structure nO (h:lK):Prop where
 six:h.six.length=8
 low:∀x∈h.six,x < 65536
 four:h.four < 4294967296
 name:h.name.length≤100000000
 kind:h.kind≤5
theorem nO.zero:nO {}:=⟨rfl,by decide,by decide,by decide,by decide⟩
def iT (o:Option lK):Value:=match o with
 |none=> .tuple #[.agg (cL {}),.bool false]
 |some h=> .tuple #[.agg (cL h),.bool true]
theorem eight {l:List Nat} (h:l.length=8):∃a b c d e f g i,l=[a,b,c,d,e,f,g,i]:=by
 match l,h with
 |[a,b,c,d,e,f,g,i],_=>exact⟨a,b,c,d,e,f,g,i,rfl⟩
theorem dF {f:Func} {p q:Tmp} {ty:TypeId} (hr:f.results= #[.cell p ty,.tmp q]) {a:Act} {w:World} {g:Nat} {t:TypeId} {arr:Array Value} {d:TypeDesc} {R:Ending→World→Prop} (v:Value) (hp:a.tmps.getD p undef= .pointer (some ⟨g,0,none⟩)) (hq:a.tmps.getD q undef=v) (hR:Row w g t arr)
 (hu:Tryz.prog.underlying ty=some d) (hd:d.isRow=true) (hi:(Tryz.prog.info? ty).map (·.size)=some arr.size) (hdf:a.defers=[]) (h:R (.returned (.tuple #[.agg arr,v])) w):bodyPost Tryz.prog f R .ret a w:=by
 have hl:=run_loadVar_row (P:=Tryz.prog) w g t ty arr (0,0) d hR hu (by cases d<;>simp_all) hi;have JP:a.tmps[p]?.getD undef= .pointer (some ⟨g,0,none⟩):=by simpa using hp
 have hq':a.tmps[q]?.getD undef=v:=by simpa using hq
 have anV:(results f a.tmps).run Tryz.prog w= .ok (.tuple #[.agg arr,v]) w:=by simp[results,hr,JP,hq',asAddr,hl]
 exact bodyPost_ret anV hdf h
theorem PJ {s:List UInt8} {x:Nat×Nat} (h:kE s=some x):x.1 < 65536∧x.2 < 65536:=by rw[FQ] at h;obtain⟨n,_,rfl⟩:=Option.map_eq_some_iff.1 h;exact⟨Nat.mod_lt _ (by decide),by simp only;omega⟩
theorem Wy (numbers:Bool):∀(L:List (List UInt8)) (l:List Nat),Al numbers L=some l→∀x∈l,x < 65536:=by
 intro L;induction L with
 |nil=>intro l h;cases h;simp
 |cons p r ih=>
  intro l h;cases r with
  |nil=>
   have e:Al numbers [p]=if(numbers&&p.contains 46)=true then(kE p).map fun x=>[x.1,x.2] else(kD p).map fun x=>[x]:=rfl
   rw[e] at h;split at h
   ·obtain⟨y,hy,rfl⟩:=Option.map_eq_some_iff.1 h;have:=PJ hy;intro x hx;simp only[List.mem_cons,List.not_mem_nil,or_false] at hx;rcases hx with rfl|rfl;·exact this.1
    ·exact this.2
   ·obtain⟨y,hy,rfl⟩:=Option.map_eq_some_iff.1 h;have:=EZ hy;intro x hx;simp only[List.mem_cons,List.not_mem_nil,or_false] at hx;rw[hx];exact this
  |cons q r=>
   rw[I0 numbers p (by simp)] at h;cases hp:kD p with
   |none=>rw[hp] at h;cases h
   |some y=>
    cases hg:Al numbers (q::r) with
    |none=>rw[hp,hg] at h;cases h
    |some m=>
     rw[hp,hg] at h;cases h;intro x hx;rcases List.mem_cons.1 hx with rfl|hx;·exact EZ hp
     ·exact ih m hg x hx
theorem Jb {s:List UInt8} {numbers:Bool} {l:List Nat} (h:lH s numbers=some l):∀x∈l,x < 65536:=by
 unfold lH at h;split at h;·cases h;simp
 ·split at h;·cases h
  ·rename_i m hm;split at h;·cases h
   ·cases h;exact Wy numbers _ _ hm
theorem Fi {s:List UInt8} {l:List Nat} (h:gM s=some l):l.length=8∧∀x∈l,x < 65536:=by
 unfold gM at h;split at h
 ·split at h;·cases h
  ·rename_i m hm;split at h;·cases h;exact⟨by assumption,Jb hm⟩
   ·cases h
 ·split at h
  ·rename_i l1 r1 h1 h2;split at h;·cases h
   ·cases h;refine⟨by simp;omega,fun x hx=>?_⟩;simp only[List.mem_append,List.mem_replicate] at hx;rcases hx with hx|⟨_,rfl⟩|hx;·exact Jb h1 x hx
    ·decide
    ·exact Jb h2 x hx
  ·cases h
theorem mQ (w:World) (uY:Value):(Instr.alloc 32 true uY).run Tryz.prog w= .ok (.pointer (some ⟨w.heap.size,0,none⟩)) (w.alloc (.cells (cL {}) 32)):=by kernel_rfl
theorem vJ (s:List UInt8) (q:UInt8) (hs:s.length≤4000000000) (w:World):Calls Tryz.prog 144 #[.string (aA s),.string (aA [q])] w fun e w'=>e= .returned (.tuple #[.string (aA (if s.getLast? =some q then s.dropLast else s)),.bool (decide (s.getLast? =some q))])∧w=w':=by
 refine(Tryz.strings_CutSuffix (aA s) (aA [q]) w (by rw[aD];omega)).mono ?_;rintro e w' ⟨rfl,rfl⟩;refine⟨?_,rfl⟩;rw[aC,aC];have hh:Lib.hasSuffix s [q]=decide (s.getLast? =some q):=by
  unfold Lib.hasSuffix;rcases List.eq_nil_or_concat s with rfl|⟨t,c,rfl⟩;·rfl
  ·rw[List.concat_eq_append];simp[List.isSuffixOf];show(q==c&&true)=decide (c=q);rw[Bool.and_true,Bool.eq_iff_iff,beq_iff_eq,decide_eq_true_eq];exact eq_comm
 unfold Lib.trimSuffix;rw[hh];by_cases h:s.getLast? =some q;·rw[if_pos (by simpa using h),if_pos h,List.dropLast_eq_take];rfl
 ·rw[if_neg (by simpa using h),if_neg h];rfl
theorem Wz (x0 x1 x2 x3 x4 x5 x6 x7:Nat) (w:World):(Instr.build 32 #[(0,.int .i64 4),(3,.agg #[.int .u16 x0,.int .u16 x1,.int .u16 x2,.int .u16 x3,.int .u16 x4,.int .u16 x5,.int .u16 x6,.int .u16 x7])]).run Tryz.prog w= .ok (.agg (cL {kind:=4,six:=[x0,x1,x2,x3,x4,x5,x6,x7]})) w:=by kernel_rfl
theorem iU (w:World):(Instr.build 32 #[]).run Tryz.prog w= .ok (.agg (cL {})) w:=by kernel_rfl
theorem WA:(⟨#[93]⟩:ByteArray)=aA [93]:=rfl
def sY (t:List UInt8):Option lK:=if t.getLast? =some 93 then(gM t.dropLast).map fun a=>{kind:=4,six:=a} else none
theorem Jc (t:List UInt8) (hs:t.length≤1000000000) (w:World) (hW:Laid w):Calls Tryz.prog 200 #[.string (aA t)] w fun e w'=>e= .returned (iT (sY t))∧Below w.heap.size w w':=by
 have HW:=hid hW;have HC:=hid (fun W=>vJ t 93 (by omega) W);have HP:=hid (fun W hW=>Wx t.dropLast (by rw[List.length_dropLast];omega) W hW);have jB:Hid (sY t=if t.getLast? =some 93 then(gM t.dropLast).map fun a=>{kind:=4,six:=a} else none):=hid rfl;have HSO:∀l,gM t.dropLast=some l→l.length=8:=fun l h=>(Fi h).1;clear hW;by_cases hl:t.getLast? =some 93;rw[if_pos hl,decide_eq_true hl] at HC;rw[if_pos hl] at jB;clear hl;generalize t.dropLast=m at*;rcases hp:gM m with _|l;rw[hp] at HP jB;have HF:Hid (sY t=none):=hid jB.out;simp only[sJ,Pv,dW,qU,eY,List.map] at HP;clear jB hp HSO;have tg:=Tg.k 0;rotate_left;obtain⟨x0,x1,x2,x3,x4,x5,x6,x7,rfl⟩:=eight (HSO l hp);rw[hp] at HP jB;have HF:Hid (sY t=some {kind:=4,six:=[x0,x1,x2,x3,x4,x5,x6,x7]}):=hid jB.out;simp only[sJ,Pv,dW,qU,eY,List.map] at HP;clear jB hp HSO;have tg:=Tg.k 1;rotate_left;rw[if_neg hl,decide_eq_false hl] at HC;rw[if_neg hl] at jB;have HF:=hid jB.out;clear hl HP HSO jB;have tg:=Tg.k 2;all_goals
  go_enter Tryz.func200,Tryz.ntmps200;go_wp2_with (refine eX rfl (mQ _) ?_;intro gA w1 aL hA);obtain⟨Fc,xI,Fe⟩:=hA.out;have HB:=hid xI;have Aa:w.heap.size≤gA:=by omega
  clear Fc xI Fe hA;rw[WA];refine(HC.out _).mono ?_;rintro e w' ⟨rfl,rfl⟩;go_wp2_with (first|fail|(refine aG rfl 32 _ rfl _ _ (iU _) ?_)|(refine lV rfl aL rfl (by kernel_rfl) ?_;intro w1 aH aB;replace HB:=bU HB aB.1 Aa;replace aL:=aH;clear aB aH));first
  |have:Tg 2:=tg
  |refine(HP.out _ (HW.out.below HB.out HW.out.size)).mono ?_;rintro e w4 ⟨rfl,cG⟩;replace aL:=aL.below cG;replace HB:=aR HB cG;clear cG;go_wp2_with (first|(refine eX rfl (pW _) ?_;intro gB w2 aJ hB;have bC:=aL.lt;have Ff:=hB.out.1;have yI:gA≠gB:=(by omega);have Fg:w.heap.size≤gB:=(by have:=HB.out.size;omega);clear bC Ff;replace aL:=aL.below hB.out.2.1;replace HB:=aR HB hB.out.2.1;clear hB)|(refine lV rfl aJ rfl (by kernel_rfl) ?_;intro w1 aH aB;replace aL:=aL.other aB yI;replace HB:=bU HB aB.1 Fg;replace aJ:=aH;clear aB aH)|(refine fF rfl aJ R30 rfl rfl ?_)|(refine aG rfl 32 _ rfl _ _ (iU _) ?_)|(refine lV rfl aL rfl (by kernel_rfl) ?_;intro w1 aH aB;replace HB:=bU HB aB.1 Aa;replace aL:=aH;clear aB aH)|(refine aG rfl 32 _ rfl _ _ (Wz x0 x1 x2 x3 x4 x5 x6 x7 _) ?_))
  refine dF rfl _ rfl rfl aL Tryz.underlying32 rfl (by kernel_rfl) rfl ?_;exact⟨by rw[HF.out];rfl,HB.out⟩
theorem PK (a:List Nat) (b e:Nat):∀n i,(iC a b e n i).length≤6*(8 - i):=by
 intro n;induction n with
 |zero=>intro i;simp[iC]
 |succ n ih=>
  intro i;rw[iC];split;·simp
  split;·rename_i h;rw[List.length_append];have h1:=ih e;simp only[List.length_cons,List.length_nil];omega
  ·rw[List.length_append,List.length_append];have h1:=ih (i+1);have h2:=(Bv (a.getD i 0)).2;have h3:(if 0 < i∧(i≠e∨e=b) then[(58:UInt8)] else[]).length≤1:=by split<;>simp
   omega
theorem SU (a:List Nat):(nZ a).length≤48:=PK _ _ _ _ _
theorem ZE (l:List UInt8):(⟨#[91]⟩:ByteArray)++aA l++⟨#[93]⟩=aA ([91]++l++[93]):=by rw[iM,iM];rfl
theorem Jd (h:lK) (ho:nO h) (w:World) (hW:Laid w):Calls Tryz.prog 25 #[.agg (cL h)] w fun e w'=>e= .returned (.string (aA (oZ h)))∧Below w.heap.size w w':=by
 have HW:=hid hW;obtain⟨k,name,four,six⟩:=h;obtain⟨h8,yX,afM,ZF,YL⟩:=ho;simp only at h8 yX afM ZF YL;have HF4:=hid (fun W hW=>Sz four afM W hW);have HS6:=hid (fun W hW=>Wv six h8 yX W hW);have GO:=SU six;have Kg:=hid (aD (nZ six));obtain⟨x0,x1,x2,x3,x4,x5,x6,x7,rfl⟩:=eight h8;simp only[cL,eY,List.map];simp only[Pv,dW,eY,List.map] at HS6;clear hW h8 yX ZF;have dO:k=0∨k=1∨k=2∨k=3∨k=4∨k=5:=by omega
 rcases dO with rfl|rfl|rfl|rfl|rfl|rfl
 case' inl=>have HF:Hid (oZ {kind:=0,name:=name,four:=four,six:=[x0,x1,x2,x3,x4,x5,x6,x7]}=[]):=hid rfl
 case' inr.inl=>have HF:Hid (oZ {kind:=1,name:=name,four:=four,six:=[x0,x1,x2,x3,x4,x5,x6,x7]}=[]):=hid rfl
 case' inr.inr.inl=>have HF:Hid (oZ {kind:=2,name:=name,four:=four,six:=[x0,x1,x2,x3,x4,x5,x6,x7]}=name):=hid rfl
 case' inr.inr.inr.inl=>have HF:Hid (oZ {kind:=3,name:=name,four:=four,six:=[x0,x1,x2,x3,x4,x5,x6,x7]}=AQ four):=hid rfl
 case' inr.inr.inr.inr.inl=>have HF:Hid (oZ {kind:=4,name:=name,four:=four,six:=[x0,x1,x2,x3,x4,x5,x6,x7]}=[91]++nZ [x0,x1,x2,x3,x4,x5,x6,x7]++[93]):=hid rfl
 case' inr.inr.inr.inr.inr=>have HF:Hid (oZ {kind:=5,name:=name,four:=four,six:=[x0,x1,x2,x3,x4,x5,x6,x7]}=name):=hid rfl
 all_goals
  go_enter Tryz.func25,Tryz.ntmps25;go_wp2_with (first|(refine jH rfl rfl ?_;intro g w1 jL hA;have c0:=jL.cell (i:=0) rfl;have c1:=jL.cell (i:=1) rfl;have c2:=jL.cell (i:=2) rfl)|(refine fO rfl 30 _ rfl _ 3 rfl jL [.int .u16 x0,.int .u16 x1,.int .u16 x2,.int .u16 x3,.int .u16 x4,.int .u16 x5,.int .u16 x6,.int .u16 x7] rfl _ Tryz.underlying30 rfl (by kernel_rfl) ?_));obtain⟨hg,hb,hz⟩:=hA.out;have HB:=hid hb;clear hg hb hz hA
 all_goals first
  |(go_ret;exact⟨by rw[HF.out];rfl,HB.out⟩)
  |(
    refine(HF4.out _ (HW.out.below HB.out HW.out.size)).mono ?_;rintro e w4 ⟨rfl,cG⟩;have fG:=aR HB cG;clear cG;go_wp2_with fail;go_ret;exact⟨by rw[HF.out];rfl,fG.out⟩)
  |(
    refine(HS6.out _ (HW.out.below HB.out HW.out.size)).mono ?_;rintro e w4 ⟨rfl,cG⟩;have fG:=aR HB cG;have hbr:=ZE (nZ [x0,x1,x2,x3,x4,x5,x6,x7]);have HBR:=hid hbr;generalize nZ [x0,x1,x2,x3,x4,x5,x6,x7]=sw at*;have rX:(aA sw).size≤48:=by rw[Kg.out];exact GO
    have qL:((⟨#[91]⟩:ByteArray)++aA sw).size≤49:=by rw[ByteArray.size_append];show 1+_≤_;omega
    clear cG hbr GO;go_wp2_with fail;go_ret;exact⟨by rw[HF.out,←HBR.out];rfl,fG.out⟩)
def eE:ByteArray:=⟨#[101,69]⟩
theorem ahU {r:Nat} (h1:128≤r) (h2:r < 2048):∃a b:UInt8,kQ r=[a,b]∧128≤b.toNat:=by unfold kQ;rw[if_neg (by omega),if_pos h2];exact⟨_,_,rfl,by simp[UInt8.toNat_ofNat];omega⟩
theorem ahV {r:Nat} (h1:2048≤r):3≤(kQ r).length:=by rw[uQ,if_neg (by omega),if_neg (by omega)];split<;>omega
theorem GP (r:Nat) (h1:128≤r) (h2:r < 2048) (w:World):Calls Tryz.prog 187 #[.string eE,.int .i32 (r:Int)] w fun e w'=>e= .returned (.int .i64 (-1))∧Below w.heap.size w w':=by
 obtain⟨a,b,he,hb⟩:=ahU h1 h2;have akZ:Utf8.encode (r:Int)=⟨#[a,b]⟩:=by rw[Em r (Or.inl (by omega)),he]
 have G3:∀W,(convert 21 9 (.int .i32 (r:Int))).run Tryz.prog W= .ok (.string ⟨#[a,b]⟩) W:=fun W=>by rw[run_convert_int_string W 21 9 .i32 (r:Int) (by rw[Tryz.underlying21];rfl) Tryz.underlying9,akZ]
 have HV:=hid (fun w=>Tryz.utf8_ValidRune (r:Int) w);have q1:decide ((0:Int)≤(r:Int))=true:=by simp
 have q2:decide ((r:Int) < 128)=false:=by simp;omega
 have q3:((r:Int)==65533)=false:=by simp;omega
 have q4:((((⟨#[101,69]⟩:ByteArray)[1]'(by decide)).toNat:Int)!=(((⟨#[a,b]⟩:ByteArray)[1]'(by show 1 < 2;decide)).toNat:Int))=true:=by show((69:Int)!=(b.toNat:Int))=true;simp;omega
 have hvr:Lib.validRune (r:Int)=true:=by unfold Lib.validRune;simp;omega
 rw[hvr] at HV;have H12:=hid (And.intro h1 h2);clear h1 h2 he hb hvr akZ;unfold eE;go_enter Tryz.func187,Tryz.ntmps187;go_wp2_with fail;refine(HV.out _).mono ?_;rintro e w' ⟨rfl,rfl⟩;go_wp2_with fail;go_step3;go_wp2_with fail;go_loopw [9] (fun i wr=>i= .int .i64 1∧w'=wr) (fun _ _=>0);case atStart=>exact⟨rfl,rfl⟩
 case round=>
  obtain⟨rfl,rfl⟩:=hrel;go_wp2_with fail;go_step3;go_wp2_with fail;go_quiet (fail);go_wp2_with fail;apply Ez fX [.val (.string ⟨#[101,69]⟩),.val (.int .i64 1),.val (.int .i64 2),.val (.string (aA [])),.val (.string ⟨#[a,b]⟩),.val (.int .i64 1),.val (.int .u8 (b.toNat:Int)),.val (.int .i64 (-1)),.val (.int .i64 (-1))] (by kernel_rfl) (by kernel_rfl) mM;repeat (first
   |(apply aS.val; ·rfl
     ·intro W hW hF K hK;go_simp;exact hK _ (Below.refl _ _)
     simp only[pq])
   |(apply aS.val; ·rfl
     ·intro W hW hF K hK;go_simp;go_at_call 81;refine(Cr [] b _).mono ?_;rintro e w2 ⟨rfl,rfl⟩;exact hK _ (Below.refl _ _)
     simp only[pq]))
  refine aS.nil ?_;intro w9 sK _;have wN:Hid (Below w'.heap.size w' w9):=hid ((Bk w'.heap.size w' nq).trans ((show Below w'.heap.size (w'.drewN nq) (w'.drewN nq).drew from⟨rfl,rfl,rfl,Nat.le_refl _,fun _ _=>rfl⟩).trans sK));clear sK;go_wp2_with fail;rw[Exit.noGoto_ret];simp only[Exit.inBlock];change Exit.noGoto (Exit.inBlock 0 _) Exit.ret _ _;rw[Exit.noGoto_ret];simp only[Exit.inBlock];simp only[Exit.then];rw[Exit.noGoto_ret];simp only[Exit.inBlock];go_ret;exact⟨rfl,wN.out⟩
theorem GQ (r:Nat) (h1:2048≤r) (h2:eA r) (h3:r≠65533) (w:World):Calls Tryz.prog 187 #[.string eE,.int .i32 (r:Int)] w fun e w'=>e= .returned (.int .i64 (-1))∧Below w.heap.size w w':=by
 have hl:=ahV h1
 have hl4:(kQ r).length≤4:=by rw[uQ];repeat' split
                              all_goals omega
 have G3:∀W,(convert 21 9 (.int .i32 (r:Int))).run Tryz.prog W= .ok (.string (aA (kQ r))) W:=fun W=>by rw[run_convert_int_string W 21 9 .i32 (r:Int) (by rw[Tryz.underlying21];rfl) Tryz.underlying9,Em r h2];rfl
 have hz:=aD (kQ r);have z1:3≤(aA (kQ r)).size:=by omega
 have z2:(aA (kQ r)).size≤4:=by omega
 generalize aA (kQ r)=x at*;have HV:=hid (fun w=>Tryz.utf8_ValidRune (r:Int) w);have q1:decide ((0:Int)≤(r:Int))=true:=by simp
 have q2:decide ((r:Int) < 128)=false:=by simp;omega
 have q3:((r:Int)==65533)=false:=by simp;omega
 have hvr:Lib.validRune (r:Int)=true:=by unfold Lib.validRune;unfold eA at h2;simp;omega
 rw[hvr] at HV;have q4:IntKind.i64.wrap ((x.size:Int) - 1)=(x.size:Int) - 1:=IntWalk.i64_in _ (by omega);have q5:decide ((x.size:Int) - 1 < 2)=false:=by simp;omega
 clear hl hl4 hz h1 h2 h3 hvr;unfold eE;go_enter Tryz.func187,Tryz.ntmps187;go_wp2_with fail;refine(HV.out _).mono ?_;rintro e w' ⟨rfl,rfl⟩;go_wp2_with fail;go_step3;go_wp2_with fail;go_loopw [9] (fun i wr=>i= .int .i64 ((x.size:Int) - 1)∧w'=wr) (fun _ _=>0);case atStart=>exact⟨rfl,rfl⟩
 case round=>obtain⟨rfl,rfl⟩:=hrel;go_wp2_with fail;rw[Exit.noGoto_ret];simp only[Exit.inBlock];go_ret;exact⟨rfl,Below.refl _ _⟩
theorem alA:cH [101,69]=(101,1):=by decide+kernel
theorem alB:cH [69]=(69,1):=by decide+kernel
theorem DU (w:World):Calls Tryz.prog 187 #[.string eE,.int .i32 65533] w fun e w'=>e= .returned (.int .i64 (-1))∧Below w.heap.size w w':=by
 have heE:eE=aA [101,69]:=rfl;unfold eE;go_enter Tryz.func187,Tryz.ntmps187;go_wp2_with fail;go_loopg [] 3 (fun gk wr=>∃pos:Nat,gk=3 - pos∧pos≤2∧Hid (wr.heap[w.heap.size]? =some (.stringIter (aA [101,69]) pos))∧Hid (Below w.heap.size w wr));case atStart=>exact⟨0,rfl,by omega,hid (World.iter_heap _ _ _),hid ((Below.refl _ _).alloc (Nat.le_refl _) _)⟩
 case round=>
  obtain⟨pos,rfl,hp,MS,HB⟩:=hrel;have step:∀p r:Nat,p < 2→cH ([101,69].drop p)=(r,1)→wr.heap[w.heap.size]? =some (.stringIter (aA [101,69]) p)→∀ty,(Instr.next (.pointer (some ⟨w.heap.size,0,none⟩)) true ty).run Tryz.prog wr= .ok (.tuple #[.bool true,.int .i64 (p:Int),.int .i32 (r:Int)]) (wr.iterAt w.heap.size (aA [101,69]) (p+1)):=by intro p r hp hd hit ty;have Zm:=Lib.run_next_any_at (P:=Tryz.prog) wr w.heap.size (aA [101,69]) p ty hit (by rw[aD];exact hp);simp only[BZ,hd] at Zm;exact Zm
  have hc:pos=0∨pos=1∨pos=2:=by omega
  rcases hc with rfl|rfl|rfl
  ·have Zm:=step 0 101 (by omega) alA MS.out;have GL:=Lib.iterAt_heap wr w.heap.size (aA [101,69]) 0 1 MS.out;have fG:=hid (Lib.below_iterAt HB.out (Nat.le_refl _) (aA [101,69]) 1);have WB:=hid GL;generalize hw4:wr.iterAt w.heap.size (aA [101,69]) (0+1)=w4 at*;clear hw4 GL step MS HB hp;go_wp2_with fail;go_roundg 2;case measure=>omega
   case rel=>exact⟨1,rfl,by omega,WB,fG⟩
  ·have Zm:=step 1 69 (by omega) alB MS.out;have GL:=Lib.iterAt_heap wr w.heap.size (aA [101,69]) 1 2 MS.out;have fG:=hid (Lib.below_iterAt HB.out (Nat.le_refl _) (aA [101,69]) 2);have WB:=hid GL;generalize hw4:wr.iterAt w.heap.size (aA [101,69]) (1+1)=w4 at*;clear hw4 GL step MS HB hp;go_wp2_with fail;go_roundg 1;case measure=>omega
   case rel=>exact⟨2,rfl,by omega,WB,fG⟩
  ·have Zm:=fun ty=>Lib.run_next_end_at (P:=Tryz.prog) wr w.heap.size (aA [101,69]) 2 ty MS.out (by rw[aD];decide);clear step hp;go_wp2_with fail;go_ret;exact⟨rfl,HB.out⟩
theorem SV (c:UInt8) (t:List UInt8) (h:c.toNat < 128):cH (c::t)=(c.toNat,1):=by unfold cH Lib.decodeN;rw[if_pos (by simpa using h)];rfl
def XM (s:List UInt8):Int:=if s.any BQ then((s.takeWhile fun c=> !BQ c).length:Int) else -1
theorem MY (c:UInt8):BQ c=true↔c.toNat=101∨c.toNat=69:=by unfold BQ;simp only[Bool.or_eq_true,beq_iff_eq,←UInt8.toNat_inj];exact Iff.rfl
theorem ZG {s:List UInt8} (h:s.any BQ=false):XM s= -1:=by unfold XM;rw[h];rfl
theorem adK {s:List UInt8} {p:Nat} {c:UInt8} {t:List UInt8} (h:(s.take p).any BQ=false) (hd:s.drop p=c::t) (hc:BQ c=true) (hp:p≤s.length):XM s=(p:Int):=by
 have e:s=s.take p++c::t:=by rw[←hd,List.take_append_drop]
 have h1:s.any BQ=true:=by rw[e,List.any_append,List.any_cons,hc];simp
 have h2:(s.takeWhile fun c=> !BQ c)=s.take p:=by rw[e,List.takeWhile_append_of_pos,List.takeWhile_cons_of_neg (by simp[hc]),List.append_nil,←e];intro x hx;rw[List.any_eq_false] at h;simpa using h x hx
 unfold XM;rw[h1,h2,List.length_take];simp;omega
theorem ZH {l:List UInt8} (eG:l≠[]) (h1:(cH l).1≠101) (h2:(cH l).1≠69):(l.take (cH l).2).any BQ=false:=by
 obtain⟨c,t,rfl⟩:∃c t,l=c::t:=by
  cases l with
  |nil=>exact absurd rfl eG
  |cons c t=>exact⟨c,t,rfl⟩
 by_cases ha:c.toNat < 128
 ·have hd:=SV c t ha;rw[hd] at h1 h2⊢;simp only at h1 h2;have:BQ c=false:=by rw[Bool.eq_false_iff,ne_eq,MY];omega
  simp[this]
 ·by_cases hb:(cH (c::t)).1=65533∧(cH (c::t)).2=1
  ·rw[hb.2];have:BQ c=false:=by rw[Bool.eq_false_iff,ne_eq,MY];omega
   simp[this]
  ·have W:=kC (c::t) eG _ _ rfl (fun a b=>hb ⟨a,b⟩);rw[List.any_eq_false];intro x hx;obtain⟨j,hj,rfl⟩:=List.getElem_of_mem hx;rw[List.length_take] at hj;have yX:¬(cH (c::t)).1 < 128:=fun h=>by have:=(W.low h).2;simp at this;omega
   have hh:=W.high (by omega);have hg:((c::t).take (cH (c::t)).2)[j]=(c::t).getD j 0:=by rw[List.getElem_take,List.getD_eq_getElem?_getD,List.getElem?_eq_getElem (by omega)];rfl
   rw[hg,MY];rcases Nat.eq_zero_or_pos j with rfl|hj0;·omega
   ·have:=hh.2.2 j hj0 (by omega);omega
theorem ahW {l:List UInt8} (eG:l≠[]) (h1:(cH l).1=101∨(cH l).1=69):∃c t,l=c::t∧BQ c=true:=by
 have W:=kC l eG _ _ rfl (fun a=>by omega);obtain⟨c,t,rfl⟩:∃c t,l=c::t:=by
  cases l with
  |nil=>exact absurd rfl eG
  |cons c t=>exact⟨c,t,rfl⟩
 refine⟨c,t,rfl,(MY c).2 ?_⟩;have:=(W.low (by omega)).2;simp at this;omega
theorem adL {l:List UInt8} (eG:l≠[]):eA (cH l).1:=by
 by_cases hb:(cH l).1=65533∧(cH l).2=1;·rw[hb.1];unfold eA;omega
 ·exact(kC l eG _ _ rfl (fun a b=>hb ⟨a,b⟩)).ok
def ixR (r:Nat):Int:=if r=101 then 0 else if r=69 then 1 else -1
theorem WC:∀i:Fin 128,Lib.indexByte [101,69] ((i.val:Int).toNat.toUInt8)=ixR i.val:=by decide+kernel
theorem Ku (r:Nat) (h:eA r) (w:World):Calls Tryz.prog 187 #[.string eE,.int .i32 (r:Int)] w fun e w'=>e= .returned (.int .i64 (ixR r))∧Below w.heap.size w w':=by
 by_cases h1:r < 128;·refine(Tryz.strings_IndexRune_ascii eE (r:Int) w (by omega) (by omega)).mono ?_;rintro e w' ⟨rfl,rfl⟩;exact⟨by rw[←WC ⟨r,h1⟩];rfl,Below.refl _ _⟩
 ·have hr:ixR r= -1:=by unfold ixR;rw[if_neg (by omega),if_neg (by omega)]
  rw[hr];by_cases h2:r < 2048;·exact GP r (by omega) h2 w
  ·by_cases h3:r=65533;·subst h3;exact DU w
   ·exact GQ r (by omega) h h3 w
theorem PL (s:List UInt8):Lib.indexAny s [101,69]=XM s:=by
 induction s with
 |nil=>rfl
 |cons b l ih=>
  unfold Lib.indexAny;have hb:([101,69]:List UInt8).contains b=BQ b:=by unfold BQ;rw[Bool.eq_iff_iff];simp
  rw[hb,ih];cases h:BQ b with
  |true=>simp[XM,h]
  |false=>
   cases h2:l.any BQ with
   |true=>
    simp only[XM,List.any_cons,h,h2,Bool.false_or,if_true,Bool.false_eq_true,if_false];rw[List.takeWhile_cons_of_pos (by simp[h]),List.length_cons];have:(((l.takeWhile fun c=> !BQ c).length:Int)== -1)=false:=by rw[beq_eq_false_iff_ne];omega
    rw[this];simp
   |false=>simp[XM,h,h2]
theorem afN {a b:Value} (h:a=b):Ending.returned a= .returned b:=by rw[h]
theorem ZI:∀(j:Nat) (b:UInt8),eE.data.toList[j]? =some b→b.toNat < 128:=by intro j b h;have:=List.mem_of_getElem? h;have e:eE.data.toList=[101,69]:=rfl;rw[e] at this;simp at this;rcases this with rfl|rfl<;>decide
theorem adM (w:World):(zeroValue 143).run Tryz.prog w= .ok (.agg (Array.replicate 256 (.bool false))) w:=by kernel_rfl
set_option maxRecDepth 1000000 in
theorem MZ (s:List UInt8) (hs:s.length≤4000000000) (w:World):Calls Tryz.prog 188 #[.string (aA s),.string eE] w fun e w'=>e= .returned (.int .i64 (XM s))∧Below w.heap.size w w':=by
 by_cases h8:8 < s.length;·refine(Tryz.strings_IndexAny_long adM (aA s) eE w (by decide) (by rw[aD];omega) (by rw[aD];omega) (by decide) ZI).mono ?_;rintro e w' ⟨rfl,rfl⟩;rw[aC];exact⟨by rw[←PL];rfl,((Below.refl _ _).alloc (Nat.le_refl _) _).alloc (by simp) _⟩
 ·have hz:=aD s;have hd:decide ((8:Int) < ((aA s).size:Int))=false:=by simp;omega
  have HU:=hid (Tryz.strings_shouldUseASCIISet ((aA s).size:Int) w);rw[hd] at HU;have HIR:=hid Ku;have HZ:=hid hz;clear hd hz;unfold eE at*;go_enter Tryz.func188,Tryz.ntmps188;go_wp2_with fail;refine HU.out.mono ?_;rintro e w' ⟨rfl,rfl⟩;go_wp2_with fail;go_loopg [] (s.length+1) (fun gk wr=>∃pos:Nat,gk=s.length+1 - pos∧pos≤s.length∧Hid ((s.take pos).any BQ=false)∧Hid (wr.heap[w'.heap.size]? =some (.stringIter (aA s) pos))∧Hid (Below w'.heap.size w' wr));case atStart=>exact⟨0,rfl,by omega,hid rfl,hid (World.iter_heap _ _ _),hid ((Below.refl _ _).alloc (Nat.le_refl _) _)⟩
  case round=>
   obtain⟨pos,rfl,hp,HF,MS,HB⟩:=hrel;by_cases bC:pos < s.length
   ·have eG:s.drop pos≠[]:=by intro h;have:=congrArg List.length h;simp at this;omega
    have Zm:=fun ty=>Lib.run_next_any_at (P:=Tryz.prog) wr w'.heap.size (aA s) pos ty MS.out (by rw[aD];exact bC);simp only[BZ] at Zm;have HN:=ZH eG;have HE:=ahW eG;have qK:=adL eG;have KP:=(MR eG).2;have Dr:=qC (s.drop pos);rw[List.length_drop] at KP;generalize (cH (s.drop pos)).1=r at*;generalize (cH (s.drop pos)).2=k at*;have HR:=hid (fun W=>HIR.out r qK W);have GL:=Lib.iterAt_heap wr w'.heap.size (aA s) pos (pos+k) MS.out;have fG:=hid (Lib.below_iterAt HB.out (Nat.le_refl _) (aA s) (pos+k));generalize hw4:wr.iterAt w'.heap.size (aA s) (pos+k)=w4 at*;have WB:=hid GL;by_cases hE:r=101∨r=69
    ·obtain⟨c,t,hdr,hc⟩:=HE hE;have HX:=hid (adK HF.out hdr hc hp);have h0:0≤ixR r:=by unfold ixR;rcases hE with rfl|rfl<;>simp
     have ND:decide (0≤ixR r)=true:=by simpa using h0
     generalize ixR r=x at*;clear HN HE hE hdr hc h0 hw4 GL eG;go_wp2_with fail;refine(HR.out _).mono ?_;rintro e w5 ⟨rfl,aM⟩;have iJ:=aR fG aM;clear aM;go_wp2_with fail;go_ret;exact⟨afN (by rw[HX.out];rfl),iJ.out⟩
    ·have hx:ixR r= -1:=by unfold ixR;rw[if_neg (by omega),if_neg (by omega)]
     rw[hx] at HR;have hT:(s.take (pos+k)).any BQ=false:=by rw[List.take_add,List.any_append,HF.out,HN (by omega) (by omega)];rfl
     have HT:=hid hT;clear HN HE hE hx hT hw4 GL eG;go_wp2_with fail;refine(HR.out _).mono ?_;rintro e w5 ⟨rfl,aM⟩;have iJ:=aR fG aM;have anW:=hid ((aM.block _ (Array.getElem?_eq_some_iff.1 WB.out).1).trans WB.out);clear aM;go_wp2_with fail;go_roundg (s.length+1 - (pos+k));case measure=>omega
     case rel=>exact⟨pos+k,rfl,by omega,HT,anW,iJ⟩
   ·have Ec:pos=s.length:=by omega
    have hF:=HF.out;rw[Ec,List.take_length] at hF;have HX:=hid (ZG hF);have Zm:=fun ty=>Lib.run_next_end_at (P:=Tryz.prog) wr w'.heap.size (aA s) pos ty MS.out (by rw[aD];omega);clear hF Ec;go_wp2_with fail;go_ret;exact⟨afN (by rw[HX.out];rfl),HB.out⟩
end Go.Proofs.YtmgmclkplepapaaGreatDoor
