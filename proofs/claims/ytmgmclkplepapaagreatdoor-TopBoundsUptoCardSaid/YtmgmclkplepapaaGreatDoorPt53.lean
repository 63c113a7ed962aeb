/- Proved here: topBounds.proved : Rows.TopBoundsUptoCardSaid, the law TopBounds returns true and leaves its arguments as they were, for every policy, base, element, name and bytes. Conditions: those of the statement alone: the arguments hold at most 1048576 values and letters together, and the listed variables hold what the text lays (the card ties that, over a pruned copy of the project). -/
import Derived.Test.YtmgmclkplepapaaGreatDoorTie
import Derived.Test.YtmgmclkplepapaaGreatDoorPt51
import Derived.Test.YtmgmclkplepapaaGreatDoorPt52
set_option linter.all false
set_option maxRecDepth 100000
set_option maxHeartbeats 64000000
namespace Go.Proofs.YtmgmclkplepapaaGreatDoor
open Go.ChangeShapes Go.WideShapes Go.ChangeAt Go.RowKit
open Go.ChangeMaps (open_string shut_string)
namespace topBounds
theorem own:ownKnob Tryz.prog.godebug=none:=by kernel_rfl
theorem laidOut:laidOutB Tryz.prog=true:=by kernel_rfl
theorem amP {H:Type} {a b c d e:DataW H} (h:Rows.uptoSmall H [a,b,c,d,e]=true):Rows.uptoBulk a≤1048576∧Rows.uptoBulk b≤1048576∧Rows.uptoBulk c≤1048576∧Rows.uptoBulk d≤1048576∧Rows.uptoBulk e≤1048576:=by have h1:Rows.uptoBulkAll [a,b,c,d,e]≤1048576:=of_decide_eq_true h;simp only[Rows.uptoBulkAll] at h1;omega
theorem JL (s:ByteArray):s=aA s.data.toList:=by simp[aA]
theorem abI (H:Type) (enc:TypeId×Value→H) (W:World) (base:Nat) (args:Array Value) (ds gs:List (DataW H)) (before:List MemPlace)
 (agB:∀(j:Nat) t v,Tryz.f3.params[j]? =some t→args[j]? =some v→Value.okWide Tryz.prog W .any base t v)
 (hW:DataW.Whole enc Tryz.prog Tryz.f3.params.toList Rows.topBoundsSpec.vars false W args.toList ds gs before) (hk:Rows.uptoSmall H (ds++gs)=true)
 (hL:laidMetH Tryz.prog Rows.topBoundsUptoRow.laid W) (hs:W.ShapedOpen Tryz.prog):
 Calls Tryz.prog 3 args W fun e W'=>∃v,e= .returned v∧Rows.topBoundsSpec.post enc Tryz.prog Tryz.f3 false true false false W args v W':=by
 have Cd:∀(j:Nat) t v,Tryz.f3.params[j]? =some t→args[j]? =some v→Value.okWide Tryz.prog W .any base t v:=agB;have hW':=hW;obtain⟨p,q,hA0,hV,rfl,hfz,hnd⟩:=hW;have hA:DataW.TrodAll enc Tryz.prog W 0 (fun _=>true) true Tryz.f3.params.toList args.toList ds p:=hA0;rw[Tryz.params3] at hA Cd;obtain⟨v0,vs0,d0,ds0,p0,q0,apL,rfl,rfl,h0,r0⟩:=trodAll_cons hA;obtain⟨v1,vs1,d1,ds1,p1,q1,rfl,rfl,rfl,h1,r1⟩:=trodAll_cons r0;obtain⟨v2,vs2,d2,ds2,p2,q2,rfl,rfl,rfl,h2,r2⟩:=trodAll_cons r1;obtain⟨v3,vs3,d3,ds3,p3,q3,rfl,rfl,rfl,h3,r3⟩:=trodAll_cons r2;obtain⟨v4,vs4,d4,ds4,p4,q4,rfl,rfl,rfl,h4,r4⟩:=trodAll_cons r3;obtain⟨rfl,rfl,rfl⟩:=trodAll_nil r4;obtain rfl:args= #[v0,v1,v2,v3,v4]:=by cases args;simp_all
 obtain⟨rfl,rfl⟩:=trodVars_none hV;obtain⟨b0,b1,b2,b3,b4⟩:=amP (by simpa using hk);have k0:=h0;have lt0:∀x∈p0,x.block < W.heap.size:=by obtain⟨m,hm⟩:=k0;exact DataW.trod_lt m _ _ _ hm
 obtain⟨kY,pol,rfl,hp⟩:=abH (Cd 0 24 v0 rfl rfl) h0 b0;obtain⟨a1,rfl,rfl,rfl,w1⟩:=open_string Tryz.underlying9 (Cd 1 9 v1 rfl rfl) h1;obtain⟨a2,rfl,rfl,rfl,w2⟩:=open_string Tryz.underlying9 (Cd 2 9 v2 rfl rfl) h2;obtain⟨a3,rfl,rfl,rfl,w3⟩:=open_string Tryz.underlying9 (Cd 3 9 v3 rfl rfl) h3;have k4:=h4;have lt4:∀x∈p4,x.block < W.heap.size:=by obtain⟨m,hm⟩:=k4;exact DataW.trod_lt m _ _ _ hm
 obtain⟨raw,hr,UC⟩:=TV (Cd 4 25 v4 rfl rfl) h4;have s1:=Nat.le_trans (Eb (H:=H) a1.data.toList) b1;have s2:=Nat.le_trans (Eb (H:=H) a2.data.toList) b2;have s3:=Nat.le_trans (Eb (H:=H) a3.data.toList) b3;have walk:=XB (w:=W) a1.data.toList a2.data.toList a3.data.toList hp hr (by omega) (by omega) (by omega) (by omega) (aeZ hL hs);rw[←JL,←JL,←JL] at walk;clear hA0 agB;refine walk.mono fun e W' ⟨he,bel⟩=>?_;subst he;exact⟨_,rfl,_,_,_,[],_,[],hW',trodAll_mk1 (shut_bool Tryz.underlying4 _),(trodAll_cons_mk (Below.trod laidOut (by kernel_rfl) (of_decide_eq_true (by kernel_rfl)) k0 bel lt0) (trodAll_cons_mk (shut_string Tryz.underlying9 w1) (trodAll_cons_mk (shut_string Tryz.underlying9 w2) (trodAll_cons_mk (shut_string Tryz.underlying9 w3) (trodAll_cons_mk (Below.trod laidOut (by kernel_rfl) (of_decide_eq_true (by kernel_rfl)) k4 bel lt4) trodAll_mk0))))),rfl,bel.frame _,fun h=>by cases h⟩
def NC (l:List Nat):Array Value:=(l.map fun(n:Nat)=>Value.int .u8 (n:Int)).toArray
def UY:Array Value:= #[.agg #[.slice none 0 0,.slice none 0 0,.slice none 0 0,.int .i64 0],.string ByteArray.empty,.string ByteArray.empty,.string ByteArray.empty,.slice none 0 0]
def lay (c:Array Value):Obj→Obj
 | .cells _ t frozen=> .cells c t frozen
 |o=>o
noncomputable def Fv (os:Os):World:=
 {World.holding Tryz.prog os ⟨#[],#[],[]⟩ with heap:=(((((World.holding Tryz.prog os ⟨#[],#[],[]⟩).heap.modify 1 (lay (NC Go.Pinned.utf8FirstZ))).modify 2 (lay (NC ((List.range 16).flatMap fun i=>[Lib.accLo i,Lib.accHi i])))).modify 3 (lay (Lib.pow10Tab.map fun n=>Value.int .u64 n).toArray)).modify 4 (lay (NC Lib.deBruijn32tab))).modify 5 (lay (NC Lib.deBruijn64tab))}
theorem abJ (os:Os):laidMet Tryz.prog Rows.topBoundsUptoRow.laid ((Fv os).forCall (fun _ _=>0) ⟨#[],UY,[]⟩).memory:=
 laidMet_of_run' 8 (by kernel_rfl) (by kernel_rfl)
theorem reads (os:Os) {H:Type} (enc:TypeId×Value→H):∃places,DataW.whole enc Tryz.prog ((Fv os).forCall (fun _ _=>0) ⟨#[],UY,[]⟩).memory Tryz.f3.params.toList Rows.topBoundsSpec.vars false UY.toList 8=some ([.agg [.nil,.nil,.nil,.lit (.int .i64 0)],.lit (.string []),.lit (.string []),.lit (.string []),.nil],[],places):=
 ⟨[],by kernel_rfl⟩
theorem lifted (os:Os) (started:os.Started) (H:Type) (enc:TypeId×Value→H) (F:Stop.Interp):
 ReturnsInHanded {} Tryz.checked os 3 .any ((Rows.OpenSpec.upto Rows.topBoundsSpec).preRow enc Tryz.prog Tryz.f3 Rows.topBoundsUptoRow.domain false Rows.topBoundsUptoRow.laid) (((Rows.OpenSpec.upto Rows.topBoundsSpec).at F).post enc Tryz.prog Tryz.f3 false true false false):=by
 obtain⟨places,hx⟩:=reads os enc;refine returnsInHanded_of_row (C:=Tryz.checked) (s:=Rows.OpenSpec.upto Rows.topBoundsSpec) own started (by kernel_rfl) Tryz.func3
  (witness_row_at (enc:=enc) (C:=Tryz.checked) false (Fv os) UY rfl (by kernel_rfl) (by kernel_rfl) (by kernel_rfl)
    (OpenSpec.preRow_of_cond 8 hx (by kernel_rfl) (fun k hk=>by cases hk;kernel_rfl) (by kernel_rfl) (abJ os))) ?_
 intro W base args ds gs before Cd hW _ hk _ hL hs _;exact abI H enc W base args ds gs before Cd hW (hk _ rfl) hL hs
theorem said:Rows.TopBoundsUptoSaid:=
 OpenClaim.holds_of_cond 3 Tryz.f3 rfl rfl rfl rfl rfl rfl rfl ⟨rfl,rfl,rfl,rfl,rfl⟩ rfl rfl rfl rfl rfl (by kernel_rfl) Tryz.func3 (by kernel_rfl)
  (of_decide_eq_true (by kernel_rfl)) (by unfold Func.isWrapper;first|(rw[if_pos (by decide+kernel)];kernel_rfl)|(rw[if_neg (by decide+kernel)];exact⟨rfl,rfl⟩))
  (fun os started H enc _ F=>by rw[OpenClaim.pre_eq_preRow];exact lifted os started H enc F)
theorem plain (f:FuncId) (fn:Func) (hf:Tryz.pinned.checked.prog.funcNamed Rows.topBoundsUptoRow.func=some f) (hfn:Tryz.pinned.checked.prog.funcs[f]? =some fn):
 false=Tryz.pinned.checked.prog.looks []∧∀(j:Nat) t,fn.params[j]? =some t→Tryz.pinned.checked.prog.wantsStandIn t=false:=by
 obtain rfl:f=3:=Option.some.inj ((show Tryz.prog.funcNamed Rows.topBoundsUptoRow.func=some 3 by kernel_rfl).symm.trans hf)|>.symm;obtain rfl:fn=Tryz.f3:=(Option.some.inj (Tryz.func3.symm.trans hfn)).symm;refine⟨by kernel_rfl,fun j t ht=>?_⟩;rw[Tryz.params3] at ht;have h:t=24∨t=9∨t=25:=by have:=Array.mem_of_getElem? ht;simp at this;omega
 rcases h with rfl|rfl|rfl;·exact(show Tryz.prog.wantsStandIn 24=false by kernel_rfl)
 ·exact(show Tryz.prog.wantsStandIn 9=false by kernel_rfl)
 ·exact(show Tryz.prog.wantsStandIn 25=false by kernel_rfl)
theorem proved:Rows.TopBoundsUptoCardSaid:=
 Claim7.holds_tied_plain_at .later [] _ _ _ _ said (fun _ h=>by cases h) (by kernel_rfl) (fun _ h=>by cases h) topBoundsUpto_row_tie rfl ⟨rfl,rfl⟩ (by kernel_rfl) rfl plain (by kernel_rfl)
#print axioms proved
end topBounds
end Go.Proofs.YtmgmclkplepapaaGreatDoor
