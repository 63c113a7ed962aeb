/- Part of the proof of TopBoundsUptoCardSaid. Conditions: none beyond the statement. -/
import Derived.Test.YtmgmclkplepapaaGreatDoorPt10
set_option linter.all false
set_option maxRecDepth 100000
set_option maxHeartbeats 64000000
namespace Go.Proofs.YtmgmclkplepapaaGreatDoor
open Go.RowKit
theorem Vs:∀i:Fin 128,Utf8.encode (i.val:Int)=⟨#[UInt8.ofNat i.val]⟩:=by decide+kernel
theorem Og:cQ.all (fun p=>match p.2 with|[c]=>decide (c.toNat < 128)|_=>false)=true:=by decide+kernel
theorem Oh (s:ByteArray) (w:World):
 Calls Tryz.prog 167 #[.string s] w fun e w'=>e= .returned (Dv (aX qO s.data.toList))∧Below w.heap.size w w':=by
 have hc:=Gx s;have hl:aX qO s.data.toList=match aX cQ s.data.toList with|some t=>some t|none=>aX pM s.data.toList:=KY cQ pM _
 rcases hb:aX cQ s.data.toList with _|t;rw[hb] at hl;have Gm:∀w,Calls Tryz.prog 196 #[.string s] w fun e w'=>e= .returned (.int .u8 0)∧Below w.heap.size w w':=fun w=>(hc w).mono (by
  rintro e w' ⟨n,rfl,hn,dB⟩;rw[hb] at hn;by_cases h0:n=0;·subst h0;exact⟨rfl,dB⟩
  ·rw[if_neg h0] at hn;cases hn)
 have HC:=hid Gm;have HL:=hid hl;clear hc Gm hl hb;by_cases h0:s.data.toList=[110,111,116,105,110];have k0:=kT h0 [110,111,116,105,110] rfl;have k1:=kF h0 [110,118,108,116] rfl;have k2:=kF h0 [110,118,103,116] rfl;have k3:=kF h0 [122,119,110,106] rfl;have k4:=kF h0 [122,119,106] rfl;have k5:=kF h0 [90,101,114,111,87,105,100,116,104,83,112,97,99,101] rfl;have k6:=kF h0 [78,111,66,114,101,97,107] rfl;have k7:=kF h0 [102,106,108,105,103] rfl;have k8:=kF h0 [99,111,112,121,115,114] rfl;have k9:=kF h0 [116,105,109,101,115,98,97,114] rfl;have ht:aX pM s.data.toList=some [226,136,137]:=by rw[h0];decide+kernel
 have HT:=hid ht;clear ht h0;have tg:=Tg.k 1;rotate_left;by_cases h1:s.data.toList=[110,118,108,116];have k0:=kF h1 [110,111,116,105,110] rfl;have k1:=kT h1 [110,118,108,116] rfl;have k2:=kF h1 [110,118,103,116] rfl;have k3:=kF h1 [122,119,110,106] rfl;have k4:=kF h1 [122,119,106] rfl;have k5:=kF h1 [90,101,114,111,87,105,100,116,104,83,112,97,99,101] rfl;have k6:=kF h1 [78,111,66,114,101,97,107] rfl;have k7:=kF h1 [102,106,108,105,103] rfl;have k8:=kF h1 [99,111,112,121,115,114] rfl;have k9:=kF h1 [116,105,109,101,115,98,97,114] rfl;have ht:aX pM s.data.toList=some [60,226,131,146]:=by rw[h1];decide+kernel
 have HT:=hid ht;clear ht h1;clear h0;have tg:=Tg.k 2;rotate_left;by_cases h2:s.data.toList=[110,118,103,116];have k0:=kF h2 [110,111,116,105,110] rfl;have k1:=kF h2 [110,118,108,116] rfl;have k2:=kT h2 [110,118,103,116] rfl;have k3:=kF h2 [122,119,110,106] rfl;have k4:=kF h2 [122,119,106] rfl;have k5:=kF h2 [90,101,114,111,87,105,100,116,104,83,112,97,99,101] rfl;have k6:=kF h2 [78,111,66,114,101,97,107] rfl;have k7:=kF h2 [102,106,108,105,103] rfl;have k8:=kF h2 [99,111,112,121,115,114] rfl;have k9:=kF h2 [116,105,109,101,115,98,97,114] rfl;have ht:aX pM s.data.toList=some [62,226,131,146]:=by rw[h2];decide+kernel
 have HT:=hid ht;clear ht h2;clear h0 h1;have tg:=Tg.k 3;rotate_left;by_cases h3:s.data.toList=[122,119,110,106];have k0:=kF h3 [110,111,116,105,110] rfl;have k1:=kF h3 [110,118,108,116] rfl;have k2:=kF h3 [110,118,103,116] rfl;have k3:=kT h3 [122,119,110,106] rfl;have k4:=kF h3 [122,119,106] rfl;have k5:=kF h3 [90,101,114,111,87,105,100,116,104,83,112,97,99,101] rfl;have k6:=kF h3 [78,111,66,114,101,97,107] rfl;have k7:=kF h3 [102,106,108,105,103] rfl;have k8:=kF h3 [99,111,112,121,115,114] rfl;have k9:=kF h3 [116,105,109,101,115,98,97,114] rfl;have ht:aX pM s.data.toList=some [226,128,140]:=by rw[h3];decide+kernel
 have HT:=hid ht;clear ht h3;clear h0 h1 h2;have tg:=Tg.k 4;rotate_left;by_cases h4:s.data.toList=[122,119,106];have k0:=kF h4 [110,111,116,105,110] rfl;have k1:=kF h4 [110,118,108,116] rfl;have k2:=kF h4 [110,118,103,116] rfl;have k3:=kF h4 [122,119,110,106] rfl;have k4:=kT h4 [122,119,106] rfl;have k5:=kF h4 [90,101,114,111,87,105,100,116,104,83,112,97,99,101] rfl;have k6:=kF h4 [78,111,66,114,101,97,107] rfl;have k7:=kF h4 [102,106,108,105,103] rfl;have k8:=kF h4 [99,111,112,121,115,114] rfl;have k9:=kF h4 [116,105,109,101,115,98,97,114] rfl;have ht:aX pM s.data.toList=some [226,128,141]:=by rw[h4];decide+kernel
 have HT:=hid ht;clear ht h4;clear h0 h1 h2 h3;have tg:=Tg.k 5;rotate_left;by_cases h5:s.data.toList=[90,101,114,111,87,105,100,116,104,83,112,97,99,101];have k0:=kF h5 [110,111,116,105,110] rfl;have k1:=kF h5 [110,118,108,116] rfl;have k2:=kF h5 [110,118,103,116] rfl;have k3:=kF h5 [122,119,110,106] rfl;have k4:=kF h5 [122,119,106] rfl;have k5:=kT h5 [90,101,114,111,87,105,100,116,104,83,112,97,99,101] rfl;have k6:=kF h5 [78,111,66,114,101,97,107] rfl;have k7:=kF h5 [102,106,108,105,103] rfl;have k8:=kF h5 [99,111,112,121,115,114] rfl;have k9:=kF h5 [116,105,109,101,115,98,97,114] rfl;have ht:aX pM s.data.toList=some [226,128,139]:=by rw[h5];decide+kernel
 have HT:=hid ht;clear ht h5;clear h0 h1 h2 h3 h4;have tg:=Tg.k 6;rotate_left;by_cases h6:s.data.toList=[78,111,66,114,101,97,107];have k0:=kF h6 [110,111,116,105,110] rfl;have k1:=kF h6 [110,118,108,116] rfl;have k2:=kF h6 [110,118,103,116] rfl;have k3:=kF h6 [122,119,110,106] rfl;have k4:=kF h6 [122,119,106] rfl;have k5:=kF h6 [90,101,114,111,87,105,100,116,104,83,112,97,99,101] rfl;have k6:=kT h6 [78,111,66,114,101,97,107] rfl;have k7:=kF h6 [102,106,108,105,103] rfl;have k8:=kF h6 [99,111,112,121,115,114] rfl;have k9:=kF h6 [116,105,109,101,115,98,97,114] rfl;have ht:aX pM s.data.toList=some [226,129,160]:=by rw[h6];decide+kernel
 have HT:=hid ht;clear ht h6;clear h0 h1 h2 h3 h4 h5;have tg:=Tg.k 7;rotate_left;by_cases h7:s.data.toList=[102,106,108,105,103];have k0:=kF h7 [110,111,116,105,110] rfl;have k1:=kF h7 [110,118,108,116] rfl;have k2:=kF h7 [110,118,103,116] rfl;have k3:=kF h7 [122,119,110,106] rfl;have k4:=kF h7 [122,119,106] rfl;have k5:=kF h7 [90,101,114,111,87,105,100,116,104,83,112,97,99,101] rfl;have k6:=kF h7 [78,111,66,114,101,97,107] rfl;have k7:=kT h7 [102,106,108,105,103] rfl;have k8:=kF h7 [99,111,112,121,115,114] rfl;have k9:=kF h7 [116,105,109,101,115,98,97,114] rfl;have ht:aX pM s.data.toList=some [102,106]:=by rw[h7];decide+kernel
 have HT:=hid ht;clear ht h7;clear h0 h1 h2 h3 h4 h5 h6;have tg:=Tg.k 8;rotate_left;by_cases h8:s.data.toList=[99,111,112,121,115,114];have k0:=kF h8 [110,111,116,105,110] rfl;have k1:=kF h8 [110,118,108,116] rfl;have k2:=kF h8 [110,118,103,116] rfl;have k3:=kF h8 [122,119,110,106] rfl;have k4:=kF h8 [122,119,106] rfl;have k5:=kF h8 [90,101,114,111,87,105,100,116,104,83,112,97,99,101] rfl;have k6:=kF h8 [78,111,66,114,101,97,107] rfl;have k7:=kF h8 [102,106,108,105,103] rfl;have k8:=kT h8 [99,111,112,121,115,114] rfl;have k9:=kF h8 [116,105,109,101,115,98,97,114] rfl;have ht:aX pM s.data.toList=some [226,132,151]:=by rw[h8];decide+kernel
 have HT:=hid ht;clear ht h8;clear h0 h1 h2 h3 h4 h5 h6 h7;have tg:=Tg.k 9;rotate_left;by_cases h9:s.data.toList=[116,105,109,101,115,98,97,114];have k0:=kF h9 [110,111,116,105,110] rfl;have k1:=kF h9 [110,118,108,116] rfl;have k2:=kF h9 [110,118,103,116] rfl;have k3:=kF h9 [122,119,110,106] rfl;have k4:=kF h9 [122,119,106] rfl;have k5:=kF h9 [90,101,114,111,87,105,100,116,104,83,112,97,99,101] rfl;have k6:=kF h9 [78,111,66,114,101,97,107] rfl;have k7:=kF h9 [102,106,108,105,103] rfl;have k8:=kF h9 [99,111,112,121,115,114] rfl;have k9:=kT h9 [116,105,109,101,115,98,97,114] rfl;have ht:aX pM s.data.toList=some [226,168,177]:=by rw[h9];decide+kernel
 have HT:=hid ht;clear ht h9;clear h0 h1 h2 h3 h4 h5 h6 h7 h8;have tg:=Tg.k 10;rotate_left;have k0:(s.toList==[110,111,116,105,110])=false:=gT h0;have k1:(s.toList==[110,118,108,116])=false:=gT h1;have k2:(s.toList==[110,118,103,116])=false:=gT h2;have k3:(s.toList==[122,119,110,106])=false:=gT h3;have k4:(s.toList==[122,119,106])=false:=gT h4;have k5:(s.toList==[90,101,114,111,87,105,100,116,104,83,112,97,99,101])=false:=gT h5;have k6:(s.toList==[78,111,66,114,101,97,107])=false:=gT h6;have k7:(s.toList==[102,106,108,105,103])=false:=gT h7;have k8:(s.toList==[99,111,112,121,115,114])=false:=gT h8;have k9:(s.toList==[116,105,109,101,115,98,97,114])=false:=gT h9;have ht:aX pM s.data.toList=none:=by unfold aX pM;simp[Ne.symm h0,Ne.symm h1,Ne.symm h2,Ne.symm h3,Ne.symm h4,Ne.symm h5,Ne.symm h6,Ne.symm h7,Ne.symm h8,Ne.symm h9]
 have HT:=hid ht;clear ht h0 h1 h2 h3 h4 h5 h6 h7 h8 h9;have tg:=Tg.k 11;rotate_left;rw[hb] at hl;have hm:=EB hb;have ha:=List.all_eq_true.1 Og _ hm;have Gm:∃n:UInt8,t=[n]∧n.toNat < 128∧n≠0∧∀w,Calls Tryz.prog 196 #[.string s] w fun e w'=>e= .returned (.int .u8 (n.toNat:Int))∧Below w.heap.size w w':=by
  have hz:(cQ.all fun p=>p.2 !=[0])=true:=by decide+kernel
  have qL:=List.all_eq_true.1 hz _ hm
  match t,ha with
  |[c],ha=>
   refine⟨c,rfl,of_decide_eq_true ha,fun e=>by subst e;exact absurd qL (by simp),fun w=>(hc w).mono ?_⟩;rintro e w' ⟨n,rfl,hn,dB⟩;rw[hb] at hn;by_cases h0:n=0;·rw[if_pos h0] at hn;cases hn
   ·rw[if_neg h0] at hn;injection hn with hn;injection hn with hn;rw[hn];exact⟨rfl,dB⟩
 obtain⟨n,rfl,hn,sE,hcn⟩:=Gm;have HC:=hid hcn;have HL:=hid hl;have eG:((n.toNat:Int)!=0)=true:=by have:n.toNat≠0:=fun e=>sE (by rw[←UInt8.toNat_inj];exact e);simp[bne];omega
 have HE:Hid (Utf8.encode (n.toNat:Int)=⟨#[n]⟩):=hid (by have:=Vs ⟨n.toNat,hn⟩;simpa using this);clear hc hcn hl ha hm hb sE;have tg:=Tg.k 0;all_goals
  go_enter Tryz.func167,Tryz.ntmps167;go_wp2_with fail;refine(HC.out w).mono ?_;rintro e w1 ⟨rfl,eN⟩;have HB:=hid eN;clear eN;go_wp2_with fail;go_ret2;first
  |have:Tg 11:=tg;exact⟨K4 (by rw[HL.out];exact HT.out),HB.out⟩
  |have:Tg 0:=tg;exact⟨by rw[HE.out];exact EC HL.out,HB.out⟩
  |exact⟨EC (by rw[HL.out];exact HT.out),HB.out⟩
theorem Ik (n:Int) (w:World) (h1: -9223372036854775808≤n) (h2:n≤9223372036854775807):
 Calls Tryz.prog 46 #[.int .i64 n] w fun e w'=>e= .returned (.string (Utf8.encode n))∧w=w':=by
 by_cases hb:n < 0∨(55296≤n∧n≤57343)∨1114111 < n
 ·rw[Ru (Ym hb)];go_enter Tryz.func46,Tryz.ntmps46;rcases hb with hb|hb|hb;·have d1:decide (n < 0)=true:=decide_eq_true hb;go_wp2;go_ret;exact⟨rfl,rfl⟩
  ·have d1:decide (n < 0)=false:=decide_eq_false (by omega);have d2:decide (1114111 < n)=false:=decide_eq_false (by omega);have d3:decide (55296≤n)=true:=decide_eq_true hb.1;have d4:decide (n≤57343)=true:=decide_eq_true hb.2;go_wp2;go_ret;exact⟨rfl,rfl⟩
  ·have d1:decide (n < 0)=false:=decide_eq_false (by omega);have d2:decide (1114111 < n)=true:=decide_eq_true hb;go_wp2;go_ret;exact⟨rfl,rfl⟩
 ·have d1:decide (n < 0)=false:=decide_eq_false (by omega);have d2:decide (1114111 < n)=false:=decide_eq_false (by omega);have hw:IntKind.i32.wrap n=n:=IntWalk.i32_in _ (by omega);by_cases d:55296≤n;·have d3:decide (55296≤n)=true:=decide_eq_true d;have d4:decide (n≤57343)=false:=decide_eq_false (by omega);clear hb d;go_enter Tryz.func46,Tryz.ntmps46;go_wp2;go_ret;exact⟨rfl,rfl⟩
  ·have d3:decide (55296≤n)=false:=decide_eq_false d;clear hb d;go_enter Tryz.func46,Tryz.ntmps46;go_wp2;go_ret;exact⟨rfl,rfl⟩
def wD:Array Value:= #[.int .i64 8364,.int .i64 129,.int .i64 8218,.int .i64 402,.int .i64 8222,.int .i64 8230,.int .i64 8224,.int .i64 8225,.int .i64 710,.int .i64 8240,.int .i64 352,.int .i64 8249,.int .i64 338,.int .i64 141,.int .i64 381,.int .i64 143,.int .i64 144,.int .i64 8216,.int .i64 8217,.int .i64 8220,.int .i64 8221,.int .i64 8226,.int .i64 8211,.int .i64 8212,.int .i64 732,.int .i64 8482,.int .i64 353,.int .i64 8250,.int .i64 339,.int .i64 157,.int .i64 382,.int .i64 376]
def Il:Array Value:= #[.int .i64 0,.int .i64 0,.int .i64 0,.int .i64 0,.int .i64 0,.int .i64 0,.int .i64 0,.int .i64 0,.int .i64 0,.int .i64 0,.int .i64 0,.int .i64 0,.int .i64 0,.int .i64 0,.int .i64 0,.int .i64 0,.int .i64 0,.int .i64 0,.int .i64 0,.int .i64 0,.int .i64 0,.int .i64 0,.int .i64 0,.int .i64 0,.int .i64 0,.int .i64 0,.int .i64 0,.int .i64 0,.int .i64 0,.int .i64 0,.int .i64 0,.int .i64 0]
theorem Oi (j:Nat) (h:j < 32):wD[j]? =some (.int .i64 (A8.getD j 0)):=by
 have key:∀i:Fin 32,wD[i.val]? =some (.int .i64 (A8.getD i.val 0)):=fun i=>by have hm:wD=(A8.map fun x=>Value.int .i64 x).toArray:=rfl;rw[hm,List.getElem?_toArray,List.getElem?_map];have hl:i.val < A8.length:=i.2;rw[List.getElem?_eq_getElem hl,List.getD_eq_getElem?_getD,List.getElem?_eq_getElem hl];rfl
 exact key ⟨j,h⟩
theorem Im (w:World) (uY:Value):(Instr.alloc 209 true uY).run Tryz.prog w= .ok (.pointer (some ⟨w.heap.size,0,none⟩)) (w.alloc (.cells Il 209)):=by kernel_rfl
theorem Oj (n:Int) (w:World):
 Calls Tryz.prog 195 #[.int .i64 n] w fun e w'=>e= .returned (.int .i64 (tL n))∧Below w.heap.size w w':=by
 go_enter Tryz.func195,Tryz.ntmps195;go_upto_region 1 with(fail)
 apply wp_region_lit;refine aG rfl 209 _ rfl _ (.agg wD) (by kernel_rfl) ?_;simp only[pq];refine yC rfl 209 rfl _ Il (fun uY=>Im w uY) ?_;simp only[pq];refine rK rfl 209 _ _ rfl w Il wD _ rfl rfl rfl (by kernel_rfl) (by kernel_rfl) (by kernel_rfl) ?_;simp only[pq];apply wpList_nil;have HC:=hid (fun j h=>(World.cell?_alloc_mark w wD 209 (0,0) j).trans (Oi j h));have HB:=hid (Dz w (.cells wD 209));generalize w.alloc (.cells wD 209)=w1 at*;by_cases h1:128≤n
 ·by_cases h2:n≤159
  ·obtain⟨j,hj⟩:∃j:Nat,n=(j:Int)+128:=⟨(n - 128).toNat,by omega⟩;subst hj;have hs:tL ((j:Int)+128)=A8.getD j 0:=by unfold tL;rw[if_pos ⟨h1,h2⟩];congr 1;omega
   have aW:=HC.out j (by omega);have apM:j < 32:=by omega
   have hW:IntKind.i64.wrap ((j:Int)+128 - 128)=(j:Int):=by rw[IntWalk.i64_in _ (by omega)];omega
   have hW2:(j:Int)+128 - 128=(j:Int):=by omega
   have d1:decide ((128:Int)≤(j:Int)+128)=true:=decide_eq_true h1;have d2:decide ((j:Int)+128≤159)=true:=decide_eq_true h2;have HS:=hid hs;clear h1 h2 hs;go_wp2_with fail;go_ret;exact⟨nU HS.out.symm,HB.out⟩
  ·have hs:tL n=n:=by unfold tL;rw[if_neg (by omega)]
   have d1:decide (128≤n)=true:=decide_eq_true h1;have d2:decide (n≤159)=false:=decide_eq_false h2;have HS:=hid hs;clear h1 h2 hs;go_wp2_with fail;go_ret;exact⟨nU HS.out.symm,HB.out⟩
 ·have hs:tL n=n:=by unfold tL;rw[if_neg (by omega)]
  have d1:decide (128≤n)=false:=decide_eq_false h1;have HS:=hid hs;clear h1 hs;go_wp2_with fail;go_ret;exact⟨nU HS.out.symm,HB.out⟩
theorem Ok (n:Int):aA (Yl n)=Utf8.encode n:=BR _
theorem Vt (n:Int) (h1: -9223372036854775808≤n) (h2:n≤9223372036854775807): -9223372036854775808≤tL n∧tL n≤9223372036854775807:=by
 unfold tL;split
 ·have key:∀i:Fin 32,0≤A8.getD i.val 0∧A8.getD i.val 0≤10000:=by decide+kernel
  have:=key ⟨(n - 128).toNat,by omega⟩;simp only[] at this;omega
 ·exact⟨h1,h2⟩
theorem DB (n:Int) (w:World) (h1: -9223372036854775808≤n) (h2:n≤9223372036854775807):
 Calls Tryz.prog 165 #[.int .i64 n] w fun e w'=>e= .returned (.string (aA (zK n)))∧Below w.heap.size w w':=by
 unfold zK;by_cases h0:n=0;·subst h0;rw[if_pos rfl,Ok];clear h1 h2;go_enter Tryz.func165,Tryz.ntmps165;go_wp2_with fail;refine(Ik 65533 w (by omega) (by omega)).mono ?_;rintro e w' ⟨rfl,rfl⟩;go_wp2_with fail;go_ret;exact⟨rfl,Below.refl _ _⟩
 ·rw[if_neg h0,Ok];have hb:=hid (Vt n h1 h2);have HS:=hid (fun w=>Oj n w);have d0:(n==0)=false:=by rw[beq_eq_false_iff_ne];exact h0
  generalize tL n=m at*;clear h1 h2 h0;go_enter Tryz.func165,Tryz.ntmps165;go_wp2_with fail;refine(HS.out w).mono ?_;rintro e w1 ⟨rfl,eN⟩;have HB:=hid eN;clear eN;go_wp2_with fail;refine(Ik m w1 hb.out.1 hb.out.2).mono ?_;rintro e w' ⟨rfl,rfl⟩;go_wp2_with fail;go_ret;exact⟨rfl,HB.out⟩
def Gy (o:Option (List UInt8×Nat)):Value:=match o with
 |some (t,n)=> .tuple #[.string (aA t),.int .i64 ((n+1:Nat):Int)]
 |none=> .tuple #[.string ⟨#[38]⟩,.int .i64 1]
theorem Vu {c:UInt8} (h:Vi c=false):((c.toNat:Int)==120)=false∧((c.toNat:Int)==88)=false:=by
 unfold Vi at h;simp only[Bool.or_eq_false_iff,beq_eq_false_iff_ne] at h;refine⟨?_,?_⟩;·rw[beq_eq_false_iff_ne];intro e;exact h.1 (by rw[←UInt8.toNat_inj];show c.toNat=120;omega)
 ·rw[beq_eq_false_iff_ne];intro e;exact h.2 (by rw[←UInt8.toNat_inj];show c.toNat=88;omega)
theorem Yt {c:UInt8} (h:Vi c=true):((c.toNat:Int)==120)=true∨(((c.toNat:Int)==120)=false∧((c.toNat:Int)==88)=true):=by
 unfold Vi at h;simp only[Bool.or_eq_true,beq_iff_eq] at h;rcases h with rfl|rfl;·exact .inl (by decide)
 ·exact .inr ⟨by decide,by decide⟩
theorem uZ {base:Int}:∀(l:List UInt8) (k:Nat) (h:k < fT base l),0≤digit (l[k]'(Nat.lt_of_lt_of_le h (uM base l))) base
 |[],k,h=>absurd h (by simp[fT])
 |c::r,k,h=>by
  unfold fT at h;split at h;·omega
  ·cases k with
   |zero=>simp only[List.getElem_cons_zero];omega
   |succ k=>exact uZ r k (by omega)
theorem zR {base:Int}:∀(l:List UInt8) (h:fT base l < l.length),digit (l[fT base l]) base < 0
 |[],h=>absurd h (by simp)
 |c::r,h=>by
  by_cases hc:digit c base < 0
  ·have e:fT base (c::r)=0:=by rw[fT,if_pos hc]
   simp only[e,List.getElem_cons_zero];exact hc
  ·have e:fT base (c::r)=fT base r+1:=by rw[fT,if_neg hc]
   simp only[e,List.getElem_cons_succ];rw[e] at h;exact zR r (by simpa using h)
theorem EK {base:Int} (hb:1≤base):∀(l:List UInt8),okD base l→0≤nL base l∧nL base l≤1114112:=by
 intro l h;have hm:=Rt hb l 0 0 (by omega) (by omega) h;unfold nL;rw[hm];have hv:∀(l:List UInt8) (n:Int),0≤n→okD base l→0≤ajV base n l:=by
  intro l;induction l with
  |nil=>intro n hn _;exact hn
  |cons c r ih=>intro n hn hd;have h1:=hd c (by simp);have h2:=Int.mul_nonneg hn (show 0≤base by omega);exact ih (n*base+digit c base) (by omega) fun x hx=>hd x (by simp[hx])
 have:=hv l 0 (by omega) h;omega
theorem Ip {base:Int} {l:List UInt8} {k:Nat} (h:k≤fT base l):okD base (l.take k):=by intro c hc;obtain⟨i,hi,he⟩:=List.getElem_of_mem hc;rw[List.length_take] at hi;rw[List.getElem_take] at he;rw[←he];exact uZ l i (by omega)
theorem Bc {base:Int} {l:List UInt8} {k:Nat} (h:k < l.length):nL base (l.take (k+1))=min (nL base (l.take k)*base+digit l[k] base) 1114112:=by rw[List.take_succ_eq_append_getElem h];unfold nL;rw[List.foldl_append];rfl
theorem Iq (s:ByteArray) (r:List UInt8) (w:World) (hs:s.data.toList=38::35::r) (hz:s.size≤1000000000):
 Calls Tryz.prog 122 #[.string s] w fun e w'=>e= .returned (Gy (Gq r))∧Below w.heap.size w w':=by
 have iW:s.size=r.length+2:=by
  have:s.data.toList.length=s.size:=by simp
  rw[hs] at this;simpa using this.symm
 have Az:∀j,(h:j < r.length)→(h2:j+2 < s.size)→s[j+2]'h2=r[j]:=fun j h h2=>by
  have h1:s[j+2]'h2=s.data.toList[j+2]'(by rw[hs];simp;omega):=by simp;rfl
  rw[h1];simp only[hs,List.getElem_cons_succ]
 have HG:=hid Az;have Kg:=hid iW;clear Az hs iW;cases hr:(match r with|c::_=>Vi c|[]=>false);have eG:Gq r=xZ 10 1 r:=by
  cases r with
  |nil=>rfl
  |cons c q=>have hx:Vi c=false:=hr;show(if Vi c=true then _ else _)=_;rw[if_neg (by rw[hx];decide)]
 have HB:=HG;have ajY:s.size≤r.length+2:=by have:=Kg.out;omega
 have amY:r.length+2≤s.size:=by have:=Kg.out;omega
 by_cases h2s:2 < s.size;have Gm:s[2]=r[0]'(by omega):=HG.out 0 (by omega) (by omega);have hx:Vi r[0]=false:=by
  cases r with
  |nil=>simp at ajY;omega
  |cons c q=>exact hr
 have Ol:(((s[2]).toNat:Int)==120)=false∧(((s[2]).toNat:Int)==88)=false:=by have h':s[2]=r[0]:=Gm;rw[h'];exact Vu hx
 obtain⟨x1,x2⟩:=Ol;clear Gm hx hr;have HL:=hid (uM 10 r);have HT:Hid (∀(k:Nat) (mE:k < r.length),k < fT 10 r→0≤digit (r[k]'mE) 10):=hid (fun k _ h=>uZ r k h);have HE:=hid (fun h=> @zR 10 r h);have HW:=hid (fun k (h:k≤fT 10 r)=>EK (base:=10) (by omega) _ (Ip h));have HSN:=hid (fun k h=> @Bc 10 r k h);have Ir:Gq r=xZ 10 1 r:=by exact eG
 unfold xZ at Ir;generalize hD:fT 10 r=D at*;have HN:=hid Ir;have Yu:=HL.out;clear hD Ir;clear eG;have tg:=Tg.k 0;rotate_left;clear hr;have hr0:r=[]:=List.length_eq_zero_iff.1 (by omega);subst hr0;have Mr:Hid (Gq []=none):=hid rfl;have Vv:s.size≤2:=by omega
 clear eG HB HG Kg;have tg:=Tg.k 1;rotate_left;rcases r with _|⟨c0,q⟩;·cases hr
 have hx:Vi c0=true:=hr;have ajY:s.size≤q.length+3:=by have:=Kg.out;simp at this;omega
 have amY:q.length+3≤s.size:=by have:=Kg.out;simp at this;omega
 have h2s:2 < s.size:=by omega
 have Gm:s[2]=c0:=HG.out 0 (by simp) (by omega);have HB:Hid (∀j,(h:j < q.length)→(h2:j+3 < s.size)→s[j+3]'h2=q[j]):=hid (fun j h h2=>HG.out (j+1) (by simpa using h) (by omega));have Ol:(((s[2]).toNat:Int)==120)=true∨((((s[2]).toNat:Int)==120)=false∧(((s[2]).toNat:Int)==88)=true):=by rw[Gm];exact Yt hx
 clear hr Gm;rcases Ol with x1|⟨x1,x2⟩;have HL:=hid (uM 16 q);have HT:Hid (∀(k:Nat) (mE:k < q.length),k < fT 16 q→0≤digit (q[k]'mE) 16):=hid (fun k _ h=>uZ q k h);have HE:=hid (fun h=> @zR 16 q h);have HW:=hid (fun k (h:k≤fT 16 q)=>EK (base:=16) (by omega) _ (Ip h));have HSN:=hid (fun k h=> @Bc 16 q k h);have Ir:Gq (c0::q)=xZ 16 2 q:=by show(if Vi c0=true then _ else _)=_;rw[if_pos hx]
 unfold xZ at Ir;generalize hD:fT 16 q=D at*;have HN:=hid Ir;have Yu:=HL.out;clear hD Ir;have tg:=Tg.k 2;rotate_left;have HL:=hid (uM 16 q);have HT:Hid (∀(k:Nat) (mE:k < q.length),k < fT 16 q→0≤digit (q[k]'mE) 16):=hid (fun k _ h=>uZ q k h);have HE:=hid (fun h=> @zR 16 q h);have HW:=hid (fun k (h:k≤fT 16 q)=>EK (base:=16) (by omega) _ (Ip h));have HSN:=hid (fun k h=> @Bc 16 q k h);have Ir:Gq (c0::q)=xZ 16 2 q:=by show(if Vi c0=true then _ else _)=_;rw[if_pos hx]
 unfold xZ at Ir;generalize hD:fT 16 q=D at*;have HN:=hid Ir;have Yu:=HL.out;clear hD Ir;have tg:=Tg.k 3;all_goals
  go_enter Tryz.func122,Tryz.ntmps122;go_wp2_with fail;first
  |have:Tg 0:=tg;go_loopw [6,7] (fun u i wr=>∃k:Nat,k≤D∧u= .int .i64 (nL 10 (r.take k))∧i= .int .i64 ((k+2:Nat):Int)∧Below w.heap.size w wr) (fun _ i _=>D+2 - (intOf i).toNat);case atStart=>exact⟨0,Nat.zero_le _,rfl,by go_num,Below.refl _ _⟩
   case round=>
    obtain⟨k,hk,rfl,rfl,dB⟩:=hrel;have dR:=hid dB;clear dB;obtain⟨w0,w1⟩:=HW.out k hk;by_cases bC:k < D
    ·have mE:k < r.length:=by omega
     have ND:=HT.out k mE bC;have hsn:=HSN.out k mE;have jZ:k+2 < s.size:=by omega
     have tM:s[k+2]'jZ=r[k]:=HB.out k mE jZ;generalize r[k]=c at*;generalize nL 10 (r.take k)=u at*;have hd1:=(oD c 10 (by omega)).2;have HS:=hid hsn;have EL:=hid (fun w=>kW c 10 (by omega) (by omega) w);generalize digit c 10=d at*;clear hsn mE;go_wp2_with fail;refine(EL.out _).mono ?_;rintro e w' ⟨rfl,rfl⟩;clear tM;go_wp2_with fail;go_roundw;case rel=>exact⟨k+1,by omega,by rw[HS.out];go_num,by go_num,dR.out⟩
     case measure=>simp[intOf];omega
    ·obtain rfl:k=D:=by omega
     have XG:=hid (fun w=>DB (nL 10 (r.take k)) w (by omega) (by omega));by_cases h0:k=0
     ·have sE:=HN.out;rw[if_pos h0] at sE;subst h0;have Mr:=hid sE;clear sE w0 w1;by_cases hle:0 < r.length
      ·have ND:=HE.out hle;have jZ:2 < s.size:=by omega
       have tM:s[2]'jZ=r[0]:=HB.out 0 hle (by omega);generalize r[0]=c at*;have EL:=hid (fun w=>kW c 10 (by omega) (by omega) w);generalize digit c 10=d at*;clear hle;go_wp2_with fail;refine(EL.out _).mono ?_;rintro e w' ⟨rfl,rfl⟩;clear tM;go_wp2_with fail;go_ret2;exact⟨by rw[Mr.out];rfl,dR.out⟩
      ·have Vv:s.size=2:=by omega
       have HZ9:=hid Vv;clear hle;go_wp2_with fail;go_ret2;exact⟨by rw[Mr.out];rfl,dR.out⟩
     ·have sE:=HN.out;rw[if_neg h0] at sE;have zP:0 < k:=by omega
      clear h0;by_cases hle:k < r.length
      ·have ND:=HE.out hle;have jZ:k+2 < s.size:=by omega
       have tM:s[k+2]'jZ=r[k]:=HB.out k hle jZ;have hg:r[k]? =some r[k]:=List.getElem?_eq_getElem hle;rw[hg] at sE;generalize r[k]=c at*;have EL:=hid (fun w=>kW c 10 (by omega) (by omega) w);generalize digit c 10=d at*;generalize nL 10 (r.take k)=u at*;clear hle hg;cases NF:((c.toNat:Int)==59)
       ·have zS:¬(some c=some (59:UInt8)):=by intro e;injection e with e;subst e;revert NF;decide
        rw[if_neg zS] at sE;have Mr:=hid sE;clear sE zS;have hsb:(((s[k+2]'jZ).toNat:Int)==59)=false:=by rw[tM];exact NF
        go_wp2_with fail;refine(EL.out _).mono ?_;rintro e w' ⟨rfl,rfl⟩;clear tM;go_wp2_with fail;refine(XG.out _).mono ?_;rintro e w2 ⟨rfl,dE⟩;have cK:=aR dR dE;clear dE;go_wp2_with fail;go_ret2;exact⟨by rw[Mr.out];show Ending.returned _=Ending.returned _;unfold Gy;go_num,cK.out⟩
       ·have zS:c=59:=by
         have:c.toNat=59:=by have:=eq_of_beq NF;omega
         rw[←UInt8.toNat_inj];exact this
        rw[if_pos (by rw[zS])] at sE;have Mr:=hid sE;clear sE zS;have hsb:(((s[k+2]'jZ).toNat:Int)==59)=true:=by rw[tM];exact NF
        go_wp2_with fail;refine(EL.out _).mono ?_;rintro e w' ⟨rfl,rfl⟩;clear tM;go_wp2_with fail;refine(XG.out _).mono ?_;rintro e w2 ⟨rfl,dE⟩;have cK:=aR dR dE;clear dE;go_wp2_with fail;go_ret2;exact⟨by rw[Mr.out];show Ending.returned _=Ending.returned _;unfold Gy;go_num,cK.out⟩
      ·have hg:r[k]? =none:=List.getElem?_eq_none (by omega);rw[hg,if_neg (by simp)] at sE;have jZ:k+2=s.size:=by omega
       have HKS:=hid jZ;have Mr:=hid sE;generalize nL 10 (r.take k)=u at*;have Vv:s.size≤k+2:=by omega
       clear sE hg hle jZ;go_wp2_with fail;refine(XG.out _).mono ?_;rintro e w2 ⟨rfl,dE⟩;have cK:=aR dR dE;clear dE;go_wp2_with fail;go_ret2;exact⟨by rw[Mr.out];show Ending.returned _=Ending.returned _;unfold Gy;go_num,cK.out⟩
  |have:Tg 1:=tg;go_loopw [6,7] (fun u i wr=>u= .int .i64 0∧i= .int .i64 2∧Below w.heap.size w wr) (fun _ _ _=>0);case atStart=>exact⟨rfl,rfl,Below.refl _ _⟩
   case round=>obtain⟨rfl,rfl,dB⟩:=hrel;have dR:=hid dB;clear dB;go_wp2_with fail;go_ret2;exact⟨by rw[Mr.out];rfl,dR.out⟩
  |go_loopw [6,7] (fun u i wr=>∃k:Nat,k≤D∧u= .int .i64 (nL 16 (q.take k))∧i= .int .i64 ((k+3:Nat):Int)∧Below w.heap.size w wr) (fun _ i _=>D+3 - (intOf i).toNat);case atStart=>exact⟨0,Nat.zero_le _,rfl,by go_num,Below.refl _ _⟩
   case round=>
    obtain⟨k,hk,rfl,rfl,dB⟩:=hrel;have dR:=hid dB;clear dB;obtain⟨w0,w1⟩:=HW.out k hk;by_cases bC:k < D
    ·have mE:k < q.length:=by omega
     have ND:=HT.out k mE bC;have hsn:=HSN.out k mE;have jZ:k+3 < s.size:=by omega
     have tM:s[k+3]'jZ=q[k]:=HB.out k mE jZ;generalize q[k]=c at*;generalize nL 16 (q.take k)=u at*;have hd1:=(oD c 16 (by omega)).2;have HS:=hid hsn;have EL:=hid (fun w=>kW c 16 (by omega) (by omega) w);generalize digit c 16=d at*;clear hsn mE;go_wp2_with fail;refine(EL.out _).mono ?_;rintro e w' ⟨rfl,rfl⟩;clear tM;go_wp2_with fail;go_roundw;case rel=>exact⟨k+1,by omega,by rw[HS.out];go_num,by go_num,dR.out⟩
     case measure=>simp[intOf];omega
    ·obtain rfl:k=D:=by omega
     have XG:=hid (fun w=>DB (nL 16 (q.take k)) w (by omega) (by omega));by_cases h0:k=0
     ·have sE:=HN.out;rw[if_pos h0] at sE;subst h0;have Mr:=hid sE;clear sE w0 w1;by_cases hle:0 < q.length
      ·have ND:=HE.out hle;have jZ:3 < s.size:=by omega
       have tM:s[3]'jZ=q[0]:=HB.out 0 hle (by omega);generalize q[0]=c at*;have EL:=hid (fun w=>kW c 16 (by omega) (by omega) w);generalize digit c 16=d at*;clear hle;go_wp2_with fail;refine(EL.out _).mono ?_;rintro e w' ⟨rfl,rfl⟩;clear tM;go_wp2_with fail;go_ret2;exact⟨by rw[Mr.out];rfl,dR.out⟩
      ·have Vv:s.size=3:=by omega
       have HZ9:=hid Vv;clear hle;go_wp2_with fail;go_ret2;exact⟨by rw[Mr.out];rfl,dR.out⟩
     ·have sE:=HN.out;rw[if_neg h0] at sE;have zP:0 < k:=by omega
      clear h0;by_cases hle:k < q.length
      ·have ND:=HE.out hle;have jZ:k+3 < s.size:=by omega
       have tM:s[k+3]'jZ=q[k]:=HB.out k hle jZ;have hg:q[k]? =some q[k]:=List.getElem?_eq_getElem hle;rw[hg] at sE;generalize q[k]=c at*;have EL:=hid (fun w=>kW c 16 (by omega) (by omega) w);generalize digit c 16=d at*;generalize nL 16 (q.take k)=u at*;clear hle hg;cases NF:((c.toNat:Int)==59)
       ·have zS:¬(some c=some (59:UInt8)):=by intro e;injection e with e;subst e;revert NF;decide
        rw[if_neg zS] at sE;have Mr:=hid sE;clear sE zS;have hsb:(((s[k+3]'jZ).toNat:Int)==59)=false:=by rw[tM];exact NF
        go_wp2_with fail;refine(EL.out _).mono ?_;rintro e w' ⟨rfl,rfl⟩;clear tM;go_wp2_with fail;refine(XG.out _).mono ?_;rintro e w2 ⟨rfl,dE⟩;have cK:=aR dR dE;clear dE;go_wp2_with fail;go_ret2;exact⟨by rw[Mr.out];show Ending.returned _=Ending.returned _;unfold Gy;go_num,cK.out⟩
       ·have zS:c=59:=by
         have:c.toNat=59:=by have:=eq_of_beq NF;omega
         rw[←UInt8.toNat_inj];exact this
        rw[if_pos (by rw[zS])] at sE;have Mr:=hid sE;clear sE zS;have hsb:(((s[k+3]'jZ).toNat:Int)==59)=true:=by rw[tM];exact NF
        go_wp2_with fail;refine(EL.out _).mono ?_;rintro e w' ⟨rfl,rfl⟩;clear tM;go_wp2_with fail;refine(XG.out _).mono ?_;rintro e w2 ⟨rfl,dE⟩;have cK:=aR dR dE;clear dE;go_wp2_with fail;go_ret2;exact⟨by rw[Mr.out];show Ending.returned _=Ending.returned _;unfold Gy;go_num,cK.out⟩
      ·have hg:q[k]? =none:=List.getElem?_eq_none (by omega);rw[hg,if_neg (by simp)] at sE;have jZ:k+3=s.size:=by omega
       have HKS:=hid jZ;have Mr:=hid sE;generalize nL 16 (q.take k)=u at*;have Vv:s.size≤k+3:=by omega
       clear sE hg hle jZ;go_wp2_with fail;refine(XG.out _).mono ?_;rintro e w2 ⟨rfl,dE⟩;have cK:=aR dR dE;clear dE;go_wp2_with fail;go_ret2;exact⟨by rw[Mr.out];show Ending.returned _=Ending.returned _;unfold Gy;go_num,cK.out⟩
end Go.Proofs.YtmgmclkplepapaaGreatDoor
