/- Part of the proof of TopBoundsUptoCardSaid. Conditions: none beyond the statement. -/
import Derived.Test.YtmgmclkplepapaaGreatDoorCards
import Derived.Lib.LaidU8T
import Derived.ProofKit
import Derived.OpenShut
import Derived.Deep.DeepHandedRow
import Derived.Test.YtmgmclkplepapaaGreatDoorPt45
set_option linter.all false
set_option maxRecDepth 100000
set_option maxHeartbeats 64000000
namespace Go.Proofs.YtmgmclkplepapaaGreatDoor
open Go.RowKit Go.Lib Go.ChangeShapes Go.WideShapes Go.ChangeAt
def UX:Go.Shelf.Ren:=⟨id,fun|119=>183|138=>185|139=>186|n=>n,fun|3=>1|4=>2|n=>n⟩
theorem abC:Go.Proofs.U8Types Tryz.prog UX:=⟨Tryz.underlying5,Tryz.underlying183,Tryz.underlying185,Tryz.underlying186⟩
theorem abD:Go.Proofs.U8Extra Tryz.prog UX:=⟨by kernel_rfl,by kernel_rfl,by kernel_rfl,by kernel_rfl,by kernel_rfl,by kernel_rfl,by kernel_rfl⟩
theorem Ea {P:Program} {W:World} {name:String} {k:IntKind} {zs:List Int} {g:Nat} {t e:TypeId} {n:Nat}
 (hg:P.globalNamed name=some g) (hty:(P.globals[g]?).map (·.type)=some t) (ht:P.underlying t=some (.array n e)) (he:P.underlying e=some (.int k)) (hce:P.cellsOf e=1) (hct:P.cellsOf t=n)
 (h:VarReads P W name (tabData k zs)):TabIs P W name k zs:=by
 obtain⟨g',t',cs,fuel,p,hg',ht',apD,hd⟩:=h;obtain rfl:=Option.some.inj (hg.symm.trans hg');obtain rfl:=Option.some.inj (hty.symm.trans ht');unfold TabIs;rw[apD,←cells_of_tab ht he hce hct hd]
theorem abE:(Rows.laid_unicode_utf8_first:DataW Unit)=Go.Lib.firstData:=by kernel_rfl
theorem XC:(Rows.laid_unicode_utf8_acceptRanges:DataW Unit)=Go.Lib.acceptData:=by kernel_rfl
theorem ajI:(Rows.laid_internal_strconv_uint64pow10:DataW Unit)=tabData .u64 Lib.pow10Tab:=by kernel_rfl
theorem XD:(Rows.laid_math_bits_deBruijn64tab:DataW Unit)=tabData .u8 (Lib.deBruijn64tab.map fun(n:Nat)=>(n:Int)):=by kernel_rfl
theorem aeZ {W:World} (hL:laidMetH Tryz.prog Rows.topBoundsUptoRow.laid W) (hs:W.ShapedOpen Tryz.prog):Laid W:=by
 have hL':laidMet Tryz.prog Rows.topBoundsUptoRow.laid W:=hL;have h1:=laidMet.reads hL' (d:=Rows.laid_unicode_utf8_first) (by unfold Rows.topBoundsUptoRow;exact .tail _ (.tail _ (.tail _ (.tail _ (.head _)))));have h2:=laidMet.reads hL' (d:=Rows.laid_unicode_utf8_acceptRanges) (by unfold Rows.topBoundsUptoRow;exact .tail _ (.tail _ (.tail _ (.head _))));have h3:=laidMet.reads hL' (d:=Rows.laid_internal_strconv_uint64pow10) (by unfold Rows.topBoundsUptoRow;exact .tail _ (.tail _ (.head _)));have h5:=laidMet.reads hL' (d:=Rows.laid_math_bits_deBruijn64tab) (by unfold Rows.topBoundsUptoRow;exact .tail _ (.head _));rw[abE] at h1;rw[XC] at h2;rw[ajI] at h3;rw[XD] at h5;have hu:Lib.Utf8Tabs 1 2 W:=Go.Proofs.utf8Tabs_of_readsT abC abD h1 h2;have hp:Lib.TabIs Tryz.prog W (gN 3) .u64 Lib.pow10Tab:=Ea (g:=3) (t:=188) (e:=130) (n:=20) (by kernel_rfl) (by kernel_rfl) Tryz.underlying188 Tryz.underlying130 (by kernel_rfl) (by kernel_rfl) h3;have hb:Lib.TabIs Tryz.prog W (gN 5) .u8 (Lib.deBruijn64tab.map fun(n:Nat)=>(n:Int)):=Ea (g:=5) (t:=213) (e:=5) (n:=64) (by kernel_rfl) (by kernel_rfl) Tryz.underlying213 Tryz.underlying5 (by kernel_rfl) (by kernel_rfl) h5;have hlen:Lib.deBruijn64tab.length=64:=by decide
 have hbc:∀j,j < 64→W.cell? ⟨5,j,none⟩=some (.int .u8 (Lib.deBruijn64tab.getD j 0)):=fun j hj=>by
  rw[hb.cell (by kernel_rfl) j (by rw[List.length_map,hlen];exact hj)];have:j < Lib.deBruijn64tab.length:=by rw[hlen];exact hj
  simp[List.getD,this]
 refine⟨?_,Go.Proofs.cell_of_shapedOpen_int (zero:= #[.int .i64 0]) (t:=3) hs (of_decide_eq_true (by kernel_rfl)) (by kernel_rfl) rfl (by kernel_rfl) (by kernel_rfl) Tryz.underlying3,hp,hu,hbc⟩;have:=World.block_lt_of_cell? W _ (hbc 0 (by decide));exact this
theorem JK {H:Type} (a b:List (DataW H)):a.length≤Rows.uptoBulk (.slice a b)∧∀d∈a,Rows.uptoBulk d≤Rows.uptoBulk (.slice a b):=by
 have one:∀d:DataW H,1≤Rows.uptoBulk d:=fun d=>by
  cases d with
  |lit l=>cases l<;>simp[Rows.uptoBulk]
  |_=>simp[Rows.uptoBulk]
 have h:a.length≤Rows.uptoBulkAll a∧∀d∈a,Rows.uptoBulk d≤Rows.uptoBulkAll a:=by
  induction a with
  |nil=>exact⟨Nat.zero_le _,fun _ h=>absurd h (by simp)⟩
  |cons x r ih=>
   simp only[Rows.uptoBulkAll,List.length_cons];have:=one x;refine⟨by have:=ih.1;omega,fun d hd=>?_⟩;rcases List.mem_cons.1 hd with rfl|hd;·omega
   ·have:=ih.2 d hd;omega
 simp only[Rows.uptoBulk];exact⟨by omega,fun d hd=>by have:=h.2 d hd;omega⟩
theorem Eb {H:Type} (l:List UInt8):l.length≤Rows.uptoBulk (.lit (.string l):DataW H):=by simp[Rows.uptoBulk]
theorem C5 {H:Type} {enc:TypeId×Value→H} {W:World} {base:Nat} {held:Bool} {a0:Option Addr} {len cap fuel:Nat} {x:DataW H×List MemPlace}
 (G2:∀a,a0=some a→a.spot=none) (hf:DataW.trod enc Tryz.prog W base (fun _=>true) held fuel 22 [.slice a0 len cap]=some x):
 ∃L:List (List UInt8),bT W (.slice a0 len cap) (L.map aA)∧L.length≤Rows.uptoBulk x.1∧∀s∈L,s.length≤Rows.uptoBulk x.1:=by
 rcases open_strings Tryz.underlying22 Tryz.underlying9 (by kernel_rfl) hf with⟨AB,hx⟩|⟨a,apE,akC,ss,AB,hb,hl,hm,hmm,hx,aW,iW⟩;·simp at AB;obtain⟨rfl,rfl,rfl⟩:=AB;exact⟨[],.inl ⟨rfl,rfl⟩,Nat.zero_le _,fun _ h=>absurd h (by simp)⟩
 ·simp at AB;obtain⟨rfl,rfl,rfl⟩:=AB;simp only[if_true] at hmm;have As:(ss.take len).length=len:=by rw[List.length_take];omega
  obtain⟨g,off,spot⟩:=a;have ajJ:spot=none:=G2 _ rfl;subst ajJ;have Dt:=JK (strs (H:=H) (ss.take len)) (strs (ss.drop len));rw[hx];refine⟨(ss.take len).map (·.data.toList),.inr ⟨g,off,cap,by rw[List.length_map,List.length_map,As],by rw[List.length_map,List.length_map,As];exact hl,fun j hj=>?_⟩,?_,fun s hs=>?_⟩
  ·have Q6:j < len:=by rw[List.length_map,List.length_map,As] at hj;exact hj
   have KW:j < ss.length:=by omega
   have:=aW j KW;rw[Addr.add_lit] at this;rw[this];simp[List.getD_eq_getElem?_getD,List.getElem?_eq_getElem KW,aA]
  ·have:=Dt.1;simpa[strs] using this
  ·obtain⟨b,eN,rfl⟩:=List.mem_map.1 hs;have h1:=Dt.2 (.lit (.string b.data.toList)) (List.mem_map.2 ⟨b,eN,rfl⟩);exact Nat.le_trans (Eb _) h1
theorem TV {H:Type} {enc:TypeId×Value→H} {W:World} {base:Nat} {held:Bool} {r:Reach} {b0:Nat} {v:Value} {d:DataW H} {p:List MemPlace}
 (Cd:Value.okWide Tryz.prog W r b0 25 v) (h:DataW.Trod enc Tryz.prog W base (fun _=>true) held 25 v d p):∃l,eR W v l∧l.length≤Rows.uptoBulk d:=by
 obtain⟨a0,len,cap,rfl⟩:=okWide_slice Tryz.underlying25 Cd;obtain⟨fuel,hf⟩:=h;simp only[Value.cells] at hf;have G2:∀a,a0=some a→a.spot=none:=fun a ha=>by subst ha;simp only[Value.okWide,Tryz.underlying25,Cell.okWide] at Cd;simp only[Cell.ok,Tryz.underlying25] at Cd;exact Cd.2.2.2.1
 rcases open_ints Tryz.underlying25 Tryz.underlying5 (by kernel_rfl) hf with⟨AB,hx⟩|⟨a,apE,akC,zs,AB,hb,hl,hm,hmm,hx,aW,hwf⟩;·simp at AB;obtain⟨rfl,rfl,rfl⟩:=AB;exact⟨[],.inl ⟨rfl,rfl⟩,Nat.zero_le _⟩
 ·simp at AB;obtain⟨rfl,rfl,rfl⟩:=AB;simp only[if_true] at hmm;have As:(zs.take len).length=len:=by rw[List.length_take];omega
  obtain⟨g,off,spot⟩:=a;have ajJ:spot=none:=G2 _ rfl;subst ajJ;have Dt:=JK (lits (H:=H) .u8 (zs.take len)) (lits .u8 (zs.drop len));have uX:=congrArg Prod.fst hx;simp only at uX;refine⟨(zs.take len).map fun z=>UInt8.ofNat z.toNat,.inr ⟨g,off,cap,by rw[List.length_map,As],by rw[List.length_map,As];exact hl,hm,fun j hj=>?_⟩,?_⟩
  ·have Q6:j < len:=by rw[List.length_map,As] at hj;exact hj
   have KW:j < zs.length:=by omega
   have h1:=aW j KW;rw[Addr.add_lit] at h1;rw[h1];have h2:=hwf zs[j] (List.getElem_mem KW);simp[Lit.wf,IntKind.min,IntKind.max,IntKind.bits,IntKind.signed] at h2;simp[List.getD_eq_getElem?_getD,List.getElem?_eq_getElem KW];omega
  ·rw[uX];have:=Dt.1;simpa[lits] using this
theorem agA {α:Type} {l:List α} (h:l.length=4):∃x0 x1 x2 x3,l=[x0,x1,x2,x3]:=by
 match l,h with
 |[x0,x1,x2,x3],_=>exact⟨x0,x1,x2,x3,rfl⟩
theorem XE {H:Type} (a b c d:DataW H):Rows.uptoBulk a+Rows.uptoBulk b+Rows.uptoBulk c+Rows.uptoBulk d≤Rows.uptoBulk (.agg [a,b,c,d]):=by simp only[Rows.uptoBulk,Rows.uptoBulkAll];omega
theorem abF:Tryz.prog.cellsOf 22=1:=by kernel_rfl
theorem afA:Tryz.prog.cellsOf 3=1:=by kernel_rfl
theorem abG:Tryz.prog.cellsOf 24=4:=by kernel_rfl
theorem abH {H:Type} {enc:TypeId×Value→H} {W:World} {base:Nat} {held:Bool} {r:Reach} {b0:Nat} {v:Value} {d:DataW H} {p:List MemPlace}
 (Cd:Value.okWide Tryz.prog W r b0 24 v) (h:DataW.Trod enc Tryz.prog W base (fun _=>true) held 24 v d p) (amO:Rows.uptoBulk d≤1048576):∃kY q,v= .agg kY∧pZ W kY q:=by
 simp only[Value.okWide,Tryz.underlying24] at Cd;obtain⟨cs,rfl,iW,ts,hts,_,aW⟩:=Cd;obtain⟨fuel,hf⟩:=h;obtain⟨l⟩:=cs;simp only[Value.cells] at hf;obtain⟨xs,m,_,hx,oO,hlen,hg⟩:=DataW.trod_struct Tryz.underlying24 hf;obtain⟨c0,c1,c2,c3,rfl⟩:=agA (l:=l) (by rw[abG] at iW;simpa using iW);obtain⟨x0,x1,x2,x3,rfl⟩:=agA hlen;have hty:(Tryz.prog.cellTypes Tryz.prog.depth 24).map (fun ts=>(ts.length,ts[0]?,ts[1]?,ts[2]?))=some (4,some 22,some 22,some 22):=by kernel_rfl
 rw[hts] at hty;simp only[Option.map_some,Option.some.injEq,Prod.mk.injEq] at hty;obtain⟨Vz,ht0,ht1,IY⟩:=hty;have ok:∀(i:Nat) (c:Value),[c0,c1,c2,c3][i]? =some c→ts[i % 4]? =some 22→∃A len cap,c= .slice A len cap∧∀a,A=some a→a.spot=none:=by intro i c hc ht;obtain⟨u,hu,qK⟩:=aW i c (by simpa using hc);rw[Vz,ht] at hu;simp only[Option.some.injEq] at hu;subst hu;simp only[Cell.okWide,Cell.ok,Tryz.underlying22] at qK;cases c<;>simp_all;rename_i A len cap;intro a ha;subst ha;exact qK.2.2.2.1
 obtain⟨A0,n0,k0,rfl,hs0⟩:=ok 0 c0 rfl ht0;obtain⟨A1,n1,k1,rfl,Co⟩:=ok 1 c1 rfl ht1;obtain⟨A2,n2,k2,rfl,We⟩:=ok 2 c2 rfl IY;have g0:=hg 0 _ rfl;have g1:=hg 1 _ rfl;have g2:=hg 2 _ rfl;have g3:=hg 3 _ rfl;simp only[abF,afA,List.drop_zero,List.drop_succ_cons,List.take_succ_cons,List.take_zero,List.getElem?_cons_zero,List.getElem?_cons_succ] at g0 g1 g2 g3;obtain⟨L0,r0,m0,z0⟩:=C5 hs0 g0;obtain⟨L1,r1,m1,z1⟩:=C5 Co g1;obtain⟨L2,r2,m2,z2⟩:=C5 We g2;obtain⟨k,e3,_,_⟩:=DataW.trod_int Tryz.underlying3 g3;obtain rfl:c3= .int .i64 k:=by have e4:List.take 1 [c3]=[Value.int .i64 k]:=e3;simpa using e4
 have hd:d= .agg [x0.1,x1.1,x2.1,x3.1]:=congrArg Prod.fst hx;rw[hd] at amO;have hb:=XE x0.1 x1.1 x2.1 x3.1;exact⟨_,⟨L0,L1,L2,k⟩,rfl,_,_,_,rfl,r0,r1,r2,⟨by show L0.length≤_;omega,by show L1.length≤_;omega,by show L2.length≤_;omega,fun x hx=>by have:=z1 x hx;omega⟩⟩
end Go.Proofs.YtmgmclkplepapaaGreatDoor
