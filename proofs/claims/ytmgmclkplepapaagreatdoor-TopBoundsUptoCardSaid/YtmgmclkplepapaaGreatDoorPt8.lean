/- Part of the proof of TopBoundsUptoCardSaid. Conditions: none beyond the statement. -/
import Derived.Test.YtmgmclkplepapaaGreatDoorPt7
set_option linter.all false
set_option maxRecDepth 100000
set_option maxHeartbeats 64000000
namespace Go.Proofs.YtmgmclkplepapaaGreatDoor
open Go.RowKit
def Du (o:Option (List UInt8)):Value:= .tuple #[.string (aA (o.getD [])),.bool o.isSome]
theorem EB {o:Option (List UInt8)} {t:List UInt8} (h:o=some t):Ending.returned (.tuple #[.string ⟨t.toArray⟩,.bool true])= .returned (Du o):=by subst h;rfl
theorem K3 {o:Option (List UInt8)} (h:o=none):Ending.returned (.tuple #[.string ⟨#[]⟩,.bool false])= .returned (Du o):=by subst h;rfl
theorem ajV {s:ByteArray} {l:List UInt8} (h:s.data.toList=l) (n:List UInt8):(s.toList==n)=(l==n):=by rw[ByteArray.toList_eq,h]
theorem kF {s:ByteArray} {l:List UInt8} (h:s.data.toList=l) (n:List UInt8) (k:(l==n)=false):(s.toList==n)=false:=(ajV h n).trans k
theorem kT {s:ByteArray} {l:List UInt8} (h:s.data.toList=l) (n:List UInt8) (k:(l==n)=true):(s.toList==n)=true:=(ajV h n).trans k
theorem gQ {s:ByteArray} {l:List UInt8} (h:¬s.data.toList=l):(s.toList==l)=false:=by rw[ByteArray.toList_eq,beq_eq_false_iff_ne];exact h
theorem Ru (s:ByteArray) (w:World):
 Calls Tryz.prog 166 #[.string s] w fun e w'=>e= .returned (Du (aX iQ s.data.toList))∧w=w':=by
 by_cases h0:s.data.toList=[97,109,112];have k0:=kT h0 [97,109,112] rfl;have k1:=kF h0 [65,77,80] rfl;have k2:=kF h0 [108,116] rfl;have k3:=kF h0 [76,84] rfl;have k4:=kF h0 [103,116] rfl;have k5:=kF h0 [71,84] rfl;have k6:=kF h0 [113,117,111,116] rfl;have k7:=kF h0 [81,85,79,84] rfl;have k8:=kF h0 [110,98,115,112] rfl;have k9:=kF h0 [115,104,121] rfl;have J2:=kF h0 [110,111,116] rfl;have J3:=kF h0 [114,101,103] rfl;have J4:=kF h0 [99,111,112,121] rfl;have J5:=kF h0 [112,97,114,97] rfl;have J6:=kF h0 [115,101,99,116] rfl;have J7:=kF h0 [121,101,110] rfl;have J8:=kF h0 [100,101,103] rfl;have J9:=kF h0 [116,105,109,101,115] rfl;have zL:=kF h0 [101,97,99,117,116,101] rfl;have Ka:=kF h0 [111,117,109,108] rfl;have Kb:=kF h0 [115,122,108,105,103] rfl;have ht:aX iQ s.data.toList=some [38]:=by rw[h0];decide+kernel
 have HT:=hid ht;clear ht h0;have tg:=Tg.k 0;rotate_left;by_cases h1:s.data.toList=[65,77,80];have k0:=kF h1 [97,109,112] rfl;have k1:=kT h1 [65,77,80] rfl;have k2:=kF h1 [108,116] rfl;have k3:=kF h1 [76,84] rfl;have k4:=kF h1 [103,116] rfl;have k5:=kF h1 [71,84] rfl;have k6:=kF h1 [113,117,111,116] rfl;have k7:=kF h1 [81,85,79,84] rfl;have k8:=kF h1 [110,98,115,112] rfl;have k9:=kF h1 [115,104,121] rfl;have J2:=kF h1 [110,111,116] rfl;have J3:=kF h1 [114,101,103] rfl;have J4:=kF h1 [99,111,112,121] rfl;have J5:=kF h1 [112,97,114,97] rfl;have J6:=kF h1 [115,101,99,116] rfl;have J7:=kF h1 [121,101,110] rfl;have J8:=kF h1 [100,101,103] rfl;have J9:=kF h1 [116,105,109,101,115] rfl;have zL:=kF h1 [101,97,99,117,116,101] rfl;have Ka:=kF h1 [111,117,109,108] rfl;have Kb:=kF h1 [115,122,108,105,103] rfl;have ht:aX iQ s.data.toList=some [38]:=by rw[h1];decide+kernel
 have HT:=hid ht;clear ht h1;clear h0;have tg:=Tg.k 1;rotate_left;by_cases h2:s.data.toList=[108,116];have k0:=kF h2 [97,109,112] rfl;have k1:=kF h2 [65,77,80] rfl;have k2:=kT h2 [108,116] rfl;have k3:=kF h2 [76,84] rfl;have k4:=kF h2 [103,116] rfl;have k5:=kF h2 [71,84] rfl;have k6:=kF h2 [113,117,111,116] rfl;have k7:=kF h2 [81,85,79,84] rfl;have k8:=kF h2 [110,98,115,112] rfl;have k9:=kF h2 [115,104,121] rfl;have J2:=kF h2 [110,111,116] rfl;have J3:=kF h2 [114,101,103] rfl;have J4:=kF h2 [99,111,112,121] rfl;have J5:=kF h2 [112,97,114,97] rfl;have J6:=kF h2 [115,101,99,116] rfl;have J7:=kF h2 [121,101,110] rfl;have J8:=kF h2 [100,101,103] rfl;have J9:=kF h2 [116,105,109,101,115] rfl;have zL:=kF h2 [101,97,99,117,116,101] rfl;have Ka:=kF h2 [111,117,109,108] rfl;have Kb:=kF h2 [115,122,108,105,103] rfl;have ht:aX iQ s.data.toList=some [60]:=by rw[h2];decide+kernel
 have HT:=hid ht;clear ht h2;clear h0 h1;have tg:=Tg.k 2;rotate_left;by_cases h3:s.data.toList=[76,84];have k0:=kF h3 [97,109,112] rfl;have k1:=kF h3 [65,77,80] rfl;have k2:=kF h3 [108,116] rfl;have k3:=kT h3 [76,84] rfl;have k4:=kF h3 [103,116] rfl;have k5:=kF h3 [71,84] rfl;have k6:=kF h3 [113,117,111,116] rfl;have k7:=kF h3 [81,85,79,84] rfl;have k8:=kF h3 [110,98,115,112] rfl;have k9:=kF h3 [115,104,121] rfl;have J2:=kF h3 [110,111,116] rfl;have J3:=kF h3 [114,101,103] rfl;have J4:=kF h3 [99,111,112,121] rfl;have J5:=kF h3 [112,97,114,97] rfl;have J6:=kF h3 [115,101,99,116] rfl;have J7:=kF h3 [121,101,110] rfl;have J8:=kF h3 [100,101,103] rfl;have J9:=kF h3 [116,105,109,101,115] rfl;have zL:=kF h3 [101,97,99,117,116,101] rfl;have Ka:=kF h3 [111,117,109,108] rfl;have Kb:=kF h3 [115,122,108,105,103] rfl;have ht:aX iQ s.data.toList=some [60]:=by rw[h3];decide+kernel
 have HT:=hid ht;clear ht h3;clear h0 h1 h2;have tg:=Tg.k 3;rotate_left;by_cases h4:s.data.toList=[103,116];have k0:=kF h4 [97,109,112] rfl;have k1:=kF h4 [65,77,80] rfl;have k2:=kF h4 [108,116] rfl;have k3:=kF h4 [76,84] rfl;have k4:=kT h4 [103,116] rfl;have k5:=kF h4 [71,84] rfl;have k6:=kF h4 [113,117,111,116] rfl;have k7:=kF h4 [81,85,79,84] rfl;have k8:=kF h4 [110,98,115,112] rfl;have k9:=kF h4 [115,104,121] rfl;have J2:=kF h4 [110,111,116] rfl;have J3:=kF h4 [114,101,103] rfl;have J4:=kF h4 [99,111,112,121] rfl;have J5:=kF h4 [112,97,114,97] rfl;have J6:=kF h4 [115,101,99,116] rfl;have J7:=kF h4 [121,101,110] rfl;have J8:=kF h4 [100,101,103] rfl;have J9:=kF h4 [116,105,109,101,115] rfl;have zL:=kF h4 [101,97,99,117,116,101] rfl;have Ka:=kF h4 [111,117,109,108] rfl;have Kb:=kF h4 [115,122,108,105,103] rfl;have ht:aX iQ s.data.toList=some [62]:=by rw[h4];decide+kernel
 have HT:=hid ht;clear ht h4;clear h0 h1 h2 h3;have tg:=Tg.k 4;rotate_left;by_cases h5:s.data.toList=[71,84];have k0:=kF h5 [97,109,112] rfl;have k1:=kF h5 [65,77,80] rfl;have k2:=kF h5 [108,116] rfl;have k3:=kF h5 [76,84] rfl;have k4:=kF h5 [103,116] rfl;have k5:=kT h5 [71,84] rfl;have k6:=kF h5 [113,117,111,116] rfl;have k7:=kF h5 [81,85,79,84] rfl;have k8:=kF h5 [110,98,115,112] rfl;have k9:=kF h5 [115,104,121] rfl;have J2:=kF h5 [110,111,116] rfl;have J3:=kF h5 [114,101,103] rfl;have J4:=kF h5 [99,111,112,121] rfl;have J5:=kF h5 [112,97,114,97] rfl;have J6:=kF h5 [115,101,99,116] rfl;have J7:=kF h5 [121,101,110] rfl;have J8:=kF h5 [100,101,103] rfl;have J9:=kF h5 [116,105,109,101,115] rfl;have zL:=kF h5 [101,97,99,117,116,101] rfl;have Ka:=kF h5 [111,117,109,108] rfl;have Kb:=kF h5 [115,122,108,105,103] rfl;have ht:aX iQ s.data.toList=some [62]:=by rw[h5];decide+kernel
 have HT:=hid ht;clear ht h5;clear h0 h1 h2 h3 h4;have tg:=Tg.k 5;rotate_left;by_cases h6:s.data.toList=[113,117,111,116];have k0:=kF h6 [97,109,112] rfl;have k1:=kF h6 [65,77,80] rfl;have k2:=kF h6 [108,116] rfl;have k3:=kF h6 [76,84] rfl;have k4:=kF h6 [103,116] rfl;have k5:=kF h6 [71,84] rfl;have k6:=kT h6 [113,117,111,116] rfl;have k7:=kF h6 [81,85,79,84] rfl;have k8:=kF h6 [110,98,115,112] rfl;have k9:=kF h6 [115,104,121] rfl;have J2:=kF h6 [110,111,116] rfl;have J3:=kF h6 [114,101,103] rfl;have J4:=kF h6 [99,111,112,121] rfl;have J5:=kF h6 [112,97,114,97] rfl;have J6:=kF h6 [115,101,99,116] rfl;have J7:=kF h6 [121,101,110] rfl;have J8:=kF h6 [100,101,103] rfl;have J9:=kF h6 [116,105,109,101,115] rfl;have zL:=kF h6 [101,97,99,117,116,101] rfl;have Ka:=kF h6 [111,117,109,108] rfl;have Kb:=kF h6 [115,122,108,105,103] rfl;have ht:aX iQ s.data.toList=some [34]:=by rw[h6];decide+kernel
 have HT:=hid ht;clear ht h6;clear h0 h1 h2 h3 h4 h5;have tg:=Tg.k 6;rotate_left;by_cases h7:s.data.toList=[81,85,79,84];have k0:=kF h7 [97,109,112] rfl;have k1:=kF h7 [65,77,80] rfl;have k2:=kF h7 [108,116] rfl;have k3:=kF h7 [76,84] rfl;have k4:=kF h7 [103,116] rfl;have k5:=kF h7 [71,84] rfl;have k6:=kF h7 [113,117,111,116] rfl;have k7:=kT h7 [81,85,79,84] rfl;have k8:=kF h7 [110,98,115,112] rfl;have k9:=kF h7 [115,104,121] rfl;have J2:=kF h7 [110,111,116] rfl;have J3:=kF h7 [114,101,103] rfl;have J4:=kF h7 [99,111,112,121] rfl;have J5:=kF h7 [112,97,114,97] rfl;have J6:=kF h7 [115,101,99,116] rfl;have J7:=kF h7 [121,101,110] rfl;have J8:=kF h7 [100,101,103] rfl;have J9:=kF h7 [116,105,109,101,115] rfl;have zL:=kF h7 [101,97,99,117,116,101] rfl;have Ka:=kF h7 [111,117,109,108] rfl;have Kb:=kF h7 [115,122,108,105,103] rfl;have ht:aX iQ s.data.toList=some [34]:=by rw[h7];decide+kernel
 have HT:=hid ht;clear ht h7;clear h0 h1 h2 h3 h4 h5 h6;have tg:=Tg.k 7;rotate_left;by_cases h8:s.data.toList=[110,98,115,112];have k0:=kF h8 [97,109,112] rfl;have k1:=kF h8 [65,77,80] rfl;have k2:=kF h8 [108,116] rfl;have k3:=kF h8 [76,84] rfl;have k4:=kF h8 [103,116] rfl;have k5:=kF h8 [71,84] rfl;have k6:=kF h8 [113,117,111,116] rfl;have k7:=kF h8 [81,85,79,84] rfl;have k8:=kT h8 [110,98,115,112] rfl;have k9:=kF h8 [115,104,121] rfl;have J2:=kF h8 [110,111,116] rfl;have J3:=kF h8 [114,101,103] rfl;have J4:=kF h8 [99,111,112,121] rfl;have J5:=kF h8 [112,97,114,97] rfl;have J6:=kF h8 [115,101,99,116] rfl;have J7:=kF h8 [121,101,110] rfl;have J8:=kF h8 [100,101,103] rfl;have J9:=kF h8 [116,105,109,101,115] rfl;have zL:=kF h8 [101,97,99,117,116,101] rfl;have Ka:=kF h8 [111,117,109,108] rfl;have Kb:=kF h8 [115,122,108,105,103] rfl;have ht:aX iQ s.data.toList=some [194,160]:=by rw[h8];decide+kernel
 have HT:=hid ht;clear ht h8;clear h0 h1 h2 h3 h4 h5 h6 h7;have tg:=Tg.k 8;rotate_left;by_cases h9:s.data.toList=[115,104,121];have k0:=kF h9 [97,109,112] rfl;have k1:=kF h9 [65,77,80] rfl;have k2:=kF h9 [108,116] rfl;have k3:=kF h9 [76,84] rfl;have k4:=kF h9 [103,116] rfl;have k5:=kF h9 [71,84] rfl;have k6:=kF h9 [113,117,111,116] rfl;have k7:=kF h9 [81,85,79,84] rfl;have k8:=kF h9 [110,98,115,112] rfl;have k9:=kT h9 [115,104,121] rfl;have J2:=kF h9 [110,111,116] rfl;have J3:=kF h9 [114,101,103] rfl;have J4:=kF h9 [99,111,112,121] rfl;have J5:=kF h9 [112,97,114,97] rfl;have J6:=kF h9 [115,101,99,116] rfl;have J7:=kF h9 [121,101,110] rfl;have J8:=kF h9 [100,101,103] rfl;have J9:=kF h9 [116,105,109,101,115] rfl;have zL:=kF h9 [101,97,99,117,116,101] rfl;have Ka:=kF h9 [111,117,109,108] rfl;have Kb:=kF h9 [115,122,108,105,103] rfl;have ht:aX iQ s.data.toList=some [194,173]:=by rw[h9];decide+kernel
 have HT:=hid ht;clear ht h9;clear h0 h1 h2 h3 h4 h5 h6 h7 h8;have tg:=Tg.k 9;rotate_left;by_cases zM:s.data.toList=[110,111,116];have k0:=kF zM [97,109,112] rfl;have k1:=kF zM [65,77,80] rfl;have k2:=kF zM [108,116] rfl;have k3:=kF zM [76,84] rfl;have k4:=kF zM [103,116] rfl;have k5:=kF zM [71,84] rfl;have k6:=kF zM [113,117,111,116] rfl;have k7:=kF zM [81,85,79,84] rfl;have k8:=kF zM [110,98,115,112] rfl;have k9:=kF zM [115,104,121] rfl;have J2:=kT zM [110,111,116] rfl;have J3:=kF zM [114,101,103] rfl;have J4:=kF zM [99,111,112,121] rfl;have J5:=kF zM [112,97,114,97] rfl;have J6:=kF zM [115,101,99,116] rfl;have J7:=kF zM [121,101,110] rfl;have J8:=kF zM [100,101,103] rfl;have J9:=kF zM [116,105,109,101,115] rfl;have zL:=kF zM [101,97,99,117,116,101] rfl;have Ka:=kF zM [111,117,109,108] rfl;have Kb:=kF zM [115,122,108,105,103] rfl;have ht:aX iQ s.data.toList=some [194,172]:=by rw[zM];decide+kernel
 have HT:=hid ht;clear ht zM;clear h0 h1 h2 h3 h4 h5 h6 h7 h8 h9;have tg:=Tg.k 10;rotate_left;by_cases Ao:s.data.toList=[114,101,103];have k0:=kF Ao [97,109,112] rfl;have k1:=kF Ao [65,77,80] rfl;have k2:=kF Ao [108,116] rfl;have k3:=kF Ao [76,84] rfl;have k4:=kF Ao [103,116] rfl;have k5:=kF Ao [71,84] rfl;have k6:=kF Ao [113,117,111,116] rfl;have k7:=kF Ao [81,85,79,84] rfl;have k8:=kF Ao [110,98,115,112] rfl;have k9:=kF Ao [115,104,121] rfl;have J2:=kF Ao [110,111,116] rfl;have J3:=kT Ao [114,101,103] rfl;have J4:=kF Ao [99,111,112,121] rfl;have J5:=kF Ao [112,97,114,97] rfl;have J6:=kF Ao [115,101,99,116] rfl;have J7:=kF Ao [121,101,110] rfl;have J8:=kF Ao [100,101,103] rfl;have J9:=kF Ao [116,105,109,101,115] rfl;have zL:=kF Ao [101,97,99,117,116,101] rfl;have Ka:=kF Ao [111,117,109,108] rfl;have Kb:=kF Ao [115,122,108,105,103] rfl;have ht:aX iQ s.data.toList=some [194,174]:=by rw[Ao];decide+kernel
 have HT:=hid ht;clear ht Ao;clear h0 h1 h2 h3 h4 h5 h6 h7 h8 h9 zM;have tg:=Tg.k 11;rotate_left;by_cases xG:s.data.toList=[99,111,112,121];have k0:=kF xG [97,109,112] rfl;have k1:=kF xG [65,77,80] rfl;have k2:=kF xG [108,116] rfl;have k3:=kF xG [76,84] rfl;have k4:=kF xG [103,116] rfl;have k5:=kF xG [71,84] rfl;have k6:=kF xG [113,117,111,116] rfl;have k7:=kF xG [81,85,79,84] rfl;have k8:=kF xG [110,98,115,112] rfl;have k9:=kF xG [115,104,121] rfl;have J2:=kF xG [110,111,116] rfl;have J3:=kF xG [114,101,103] rfl;have J4:=kT xG [99,111,112,121] rfl;have J5:=kF xG [112,97,114,97] rfl;have J6:=kF xG [115,101,99,116] rfl;have J7:=kF xG [121,101,110] rfl;have J8:=kF xG [100,101,103] rfl;have J9:=kF xG [116,105,109,101,115] rfl;have zL:=kF xG [101,97,99,117,116,101] rfl;have Ka:=kF xG [111,117,109,108] rfl;have Kb:=kF xG [115,122,108,105,103] rfl;have ht:aX iQ s.data.toList=some [194,169]:=by rw[xG];decide+kernel
 have HT:=hid ht;clear ht xG;clear h0 h1 h2 h3 h4 h5 h6 h7 h8 h9 zM Ao;have tg:=Tg.k 12;rotate_left;by_cases AB:s.data.toList=[112,97,114,97];have k0:=kF AB [97,109,112] rfl;have k1:=kF AB [65,77,80] rfl;have k2:=kF AB [108,116] rfl;have k3:=kF AB [76,84] rfl;have k4:=kF AB [103,116] rfl;have k5:=kF AB [71,84] rfl;have k6:=kF AB [113,117,111,116] rfl;have k7:=kF AB [81,85,79,84] rfl;have k8:=kF AB [110,98,115,112] rfl;have k9:=kF AB [115,104,121] rfl;have J2:=kF AB [110,111,116] rfl;have J3:=kF AB [114,101,103] rfl;have J4:=kF AB [99,111,112,121] rfl;have J5:=kT AB [112,97,114,97] rfl;have J6:=kF AB [115,101,99,116] rfl;have J7:=kF AB [121,101,110] rfl;have J8:=kF AB [100,101,103] rfl;have J9:=kF AB [116,105,109,101,115] rfl;have zL:=kF AB [101,97,99,117,116,101] rfl;have Ka:=kF AB [111,117,109,108] rfl;have Kb:=kF AB [115,122,108,105,103] rfl;have ht:aX iQ s.data.toList=some [194,182]:=by rw[AB];decide+kernel
 have HT:=hid ht;clear ht AB;clear h0 h1 h2 h3 h4 h5 h6 h7 h8 h9 zM Ao xG;have tg:=Tg.k 13;rotate_left;by_cases vM:s.data.toList=[115,101,99,116];have k0:=kF vM [97,109,112] rfl;have k1:=kF vM [65,77,80] rfl;have k2:=kF vM [108,116] rfl;have k3:=kF vM [76,84] rfl;have k4:=kF vM [103,116] rfl;have k5:=kF vM [71,84] rfl;have k6:=kF vM [113,117,111,116] rfl;have k7:=kF vM [81,85,79,84] rfl;have k8:=kF vM [110,98,115,112] rfl;have k9:=kF vM [115,104,121] rfl;have J2:=kF vM [110,111,116] rfl;have J3:=kF vM [114,101,103] rfl;have J4:=kF vM [99,111,112,121] rfl;have J5:=kF vM [112,97,114,97] rfl;have J6:=kT vM [115,101,99,116] rfl;have J7:=kF vM [121,101,110] rfl;have J8:=kF vM [100,101,103] rfl;have J9:=kF vM [116,105,109,101,115] rfl;have zL:=kF vM [101,97,99,117,116,101] rfl;have Ka:=kF vM [111,117,109,108] rfl;have Kb:=kF vM [115,122,108,105,103] rfl;have ht:aX iQ s.data.toList=some [194,167]:=by rw[vM];decide+kernel
 have HT:=hid ht;clear ht vM;clear h0 h1 h2 h3 h4 h5 h6 h7 h8 h9 zM Ao xG AB;have tg:=Tg.k 14;rotate_left;by_cases rI:s.data.toList=[121,101,110];have k0:=kF rI [97,109,112] rfl;have k1:=kF rI [65,77,80] rfl;have k2:=kF rI [108,116] rfl;have k3:=kF rI [76,84] rfl;have k4:=kF rI [103,116] rfl;have k5:=kF rI [71,84] rfl;have k6:=kF rI [113,117,111,116] rfl;have k7:=kF rI [81,85,79,84] rfl;have k8:=kF rI [110,98,115,112] rfl;have k9:=kF rI [115,104,121] rfl;have J2:=kF rI [110,111,116] rfl;have J3:=kF rI [114,101,103] rfl;have J4:=kF rI [99,111,112,121] rfl;have J5:=kF rI [112,97,114,97] rfl;have J6:=kF rI [115,101,99,116] rfl;have J7:=kT rI [121,101,110] rfl;have J8:=kF rI [100,101,103] rfl;have J9:=kF rI [116,105,109,101,115] rfl;have zL:=kF rI [101,97,99,117,116,101] rfl;have Ka:=kF rI [111,117,109,108] rfl;have Kb:=kF rI [115,122,108,105,103] rfl;have ht:aX iQ s.data.toList=some [194,165]:=by rw[rI];decide+kernel
 have HT:=hid ht;clear ht rI;clear h0 h1 h2 h3 h4 h5 h6 h7 h8 h9 zM Ao xG AB vM;have tg:=Tg.k 15;rotate_left;by_cases yT:s.data.toList=[100,101,103];have k0:=kF yT [97,109,112] rfl;have k1:=kF yT [65,77,80] rfl;have k2:=kF yT [108,116] rfl;have k3:=kF yT [76,84] rfl;have k4:=kF yT [103,116] rfl;have k5:=kF yT [71,84] rfl;have k6:=kF yT [113,117,111,116] rfl;have k7:=kF yT [81,85,79,84] rfl;have k8:=kF yT [110,98,115,112] rfl;have k9:=kF yT [115,104,121] rfl;have J2:=kF yT [110,111,116] rfl;have J3:=kF yT [114,101,103] rfl;have J4:=kF yT [99,111,112,121] rfl;have J5:=kF yT [112,97,114,97] rfl;have J6:=kF yT [115,101,99,116] rfl;have J7:=kF yT [121,101,110] rfl;have J8:=kT yT [100,101,103] rfl;have J9:=kF yT [116,105,109,101,115] rfl;have zL:=kF yT [101,97,99,117,116,101] rfl;have Ka:=kF yT [111,117,109,108] rfl;have Kb:=kF yT [115,122,108,105,103] rfl;have ht:aX iQ s.data.toList=some [194,176]:=by rw[yT];decide+kernel
 have HT:=hid ht;clear ht yT;clear h0 h1 h2 h3 h4 h5 h6 h7 h8 h9 zM Ao xG AB vM rI;have tg:=Tg.k 16;rotate_left;by_cases Dv:s.data.toList=[116,105,109,101,115];have k0:=kF Dv [97,109,112] rfl;have k1:=kF Dv [65,77,80] rfl;have k2:=kF Dv [108,116] rfl;have k3:=kF Dv [76,84] rfl;have k4:=kF Dv [103,116] rfl;have k5:=kF Dv [71,84] rfl;have k6:=kF Dv [113,117,111,116] rfl;have k7:=kF Dv [81,85,79,84] rfl;have k8:=kF Dv [110,98,115,112] rfl;have k9:=kF Dv [115,104,121] rfl;have J2:=kF Dv [110,111,116] rfl;have J3:=kF Dv [114,101,103] rfl;have J4:=kF Dv [99,111,112,121] rfl;have J5:=kF Dv [112,97,114,97] rfl;have J6:=kF Dv [115,101,99,116] rfl;have J7:=kF Dv [121,101,110] rfl;have J8:=kF Dv [100,101,103] rfl;have J9:=kT Dv [116,105,109,101,115] rfl;have zL:=kF Dv [101,97,99,117,116,101] rfl;have Ka:=kF Dv [111,117,109,108] rfl;have Kb:=kF Dv [115,122,108,105,103] rfl;have ht:aX iQ s.data.toList=some [195,151]:=by rw[Dv];decide+kernel
 have HT:=hid ht;clear ht Dv;clear h0 h1 h2 h3 h4 h5 h6 h7 h8 h9 zM Ao xG AB vM rI yT;have tg:=Tg.k 17;rotate_left;by_cases Ed:s.data.toList=[101,97,99,117,116,101];have k0:=kF Ed [97,109,112] rfl;have k1:=kF Ed [65,77,80] rfl;have k2:=kF Ed [108,116] rfl;have k3:=kF Ed [76,84] rfl;have k4:=kF Ed [103,116] rfl;have k5:=kF Ed [71,84] rfl;have k6:=kF Ed [113,117,111,116] rfl;have k7:=kF Ed [81,85,79,84] rfl;have k8:=kF Ed [110,98,115,112] rfl;have k9:=kF Ed [115,104,121] rfl;have J2:=kF Ed [110,111,116] rfl;have J3:=kF Ed [114,101,103] rfl;have J4:=kF Ed [99,111,112,121] rfl;have J5:=kF Ed [112,97,114,97] rfl;have J6:=kF Ed [115,101,99,116] rfl;have J7:=kF Ed [121,101,110] rfl;have J8:=kF Ed [100,101,103] rfl;have J9:=kF Ed [116,105,109,101,115] rfl;have zL:=kT Ed [101,97,99,117,116,101] rfl;have Ka:=kF Ed [111,117,109,108] rfl;have Kb:=kF Ed [115,122,108,105,103] rfl;have ht:aX iQ s.data.toList=some [195,169]:=by rw[Ed];decide+kernel
 have HT:=hid ht;clear ht Ed;clear h0 h1 h2 h3 h4 h5 h6 h7 h8 h9 zM Ao xG AB vM rI yT Dv;have tg:=Tg.k 18;rotate_left;by_cases EC:s.data.toList=[111,117,109,108];have k0:=kF EC [97,109,112] rfl;have k1:=kF EC [65,77,80] rfl;have k2:=kF EC [108,116] rfl;have k3:=kF EC [76,84] rfl;have k4:=kF EC [103,116] rfl;have k5:=kF EC [71,84] rfl;have k6:=kF EC [113,117,111,116] rfl;have k7:=kF EC [81,85,79,84] rfl;have k8:=kF EC [110,98,115,112] rfl;have k9:=kF EC [115,104,121] rfl;have J2:=kF EC [110,111,116] rfl;have J3:=kF EC [114,101,103] rfl;have J4:=kF EC [99,111,112,121] rfl;have J5:=kF EC [112,97,114,97] rfl;have J6:=kF EC [115,101,99,116] rfl;have J7:=kF EC [121,101,110] rfl;have J8:=kF EC [100,101,103] rfl;have J9:=kF EC [116,105,109,101,115] rfl;have zL:=kF EC [101,97,99,117,116,101] rfl;have Ka:=kT EC [111,117,109,108] rfl;have Kb:=kF EC [115,122,108,105,103] rfl;have ht:aX iQ s.data.toList=some [195,182]:=by rw[EC];decide+kernel
 have HT:=hid ht;clear ht EC;clear h0 h1 h2 h3 h4 h5 h6 h7 h8 h9 zM Ao xG AB vM rI yT Dv Ed;have tg:=Tg.k 19;rotate_left;by_cases Dw:s.data.toList=[115,122,108,105,103];have k0:=kF Dw [97,109,112] rfl;have k1:=kF Dw [65,77,80] rfl;have k2:=kF Dw [108,116] rfl;have k3:=kF Dw [76,84] rfl;have k4:=kF Dw [103,116] rfl;have k5:=kF Dw [71,84] rfl;have k6:=kF Dw [113,117,111,116] rfl;have k7:=kF Dw [81,85,79,84] rfl;have k8:=kF Dw [110,98,115,112] rfl;have k9:=kF Dw [115,104,121] rfl;have J2:=kF Dw [110,111,116] rfl;have J3:=kF Dw [114,101,103] rfl;have J4:=kF Dw [99,111,112,121] rfl;have J5:=kF Dw [112,97,114,97] rfl;have J6:=kF Dw [115,101,99,116] rfl;have J7:=kF Dw [121,101,110] rfl;have J8:=kF Dw [100,101,103] rfl;have J9:=kF Dw [116,105,109,101,115] rfl;have zL:=kF Dw [101,97,99,117,116,101] rfl;have Ka:=kF Dw [111,117,109,108] rfl;have Kb:=kT Dw [115,122,108,105,103] rfl;have ht:aX iQ s.data.toList=some [195,159]:=by rw[Dw];decide+kernel
 have HT:=hid ht;clear ht Dw;clear h0 h1 h2 h3 h4 h5 h6 h7 h8 h9 zM Ao xG AB vM rI yT Dv Ed EC;have tg:=Tg.k 20;rotate_left;have k0:(s.toList==[97,109,112])=false:=gQ h0;have k1:(s.toList==[65,77,80])=false:=gQ h1;have k2:(s.toList==[108,116])=false:=gQ h2;have k3:(s.toList==[76,84])=false:=gQ h3;have k4:(s.toList==[103,116])=false:=gQ h4;have k5:(s.toList==[71,84])=false:=gQ h5;have k6:(s.toList==[113,117,111,116])=false:=gQ h6;have k7:(s.toList==[81,85,79,84])=false:=gQ h7;have k8:(s.toList==[110,98,115,112])=false:=gQ h8;have k9:(s.toList==[115,104,121])=false:=gQ h9;have J2:(s.toList==[110,111,116])=false:=gQ zM;have J3:(s.toList==[114,101,103])=false:=gQ Ao;have J4:(s.toList==[99,111,112,121])=false:=gQ xG;have J5:(s.toList==[112,97,114,97])=false:=gQ AB;have J6:(s.toList==[115,101,99,116])=false:=gQ vM;have J7:(s.toList==[121,101,110])=false:=gQ rI;have J8:(s.toList==[100,101,103])=false:=gQ yT;have J9:(s.toList==[116,105,109,101,115])=false:=gQ Dv;have zL:(s.toList==[101,97,99,117,116,101])=false:=gQ Ed;have Ka:(s.toList==[111,117,109,108])=false:=gQ EC;have Kb:(s.toList==[115,122,108,105,103])=false:=gQ Dw;have ht:aX iQ s.data.toList=none:=by unfold aX iQ;simp[Ne.symm h0,Ne.symm h1,Ne.symm h2,Ne.symm h3,Ne.symm h4,Ne.symm h5,Ne.symm h6,Ne.symm h7,Ne.symm h8,Ne.symm h9,Ne.symm zM,Ne.symm Ao,Ne.symm xG,Ne.symm AB,Ne.symm vM,Ne.symm rI,Ne.symm yT,Ne.symm Dv,Ne.symm Ed,Ne.symm EC,Ne.symm Dw]
 have HT:=hid ht;clear ht h0 h1 h2 h3 h4 h5 h6 h7 h8 h9 zM Ao xG AB vM rI yT Dv Ed EC Dw;have tg:=Tg.k 21;all_goals
  go_enter Tryz.func166,Tryz.ntmps166;go_wp2;go_ret2;first
  |have:Tg 21:=tg;exact⟨K3 HT.out,rfl⟩
  |exact⟨EB HT.out,rfl⟩
def pE (n:Nat):Value:= .int .i64 (n:Int)
def tW (w:World) (v:Value) (l:List Nat):Prop:=
 (v= .slice none 0 0∧l=[])∨
 ∃g off c,v= .slice (some ⟨g,off,none⟩) l.length c∧l.length≤c∧∀j (h:j < l.length),w.cell? ⟨g,off+j,none⟩=some (.int .i64 (l[j]:Int))
def pA (w:World) (base:Nat) (v:Value) (l:List Nat):Prop:=w.ownsRow base 3 1 v l.length (l.map pE)
theorem Ym:(Tryz.prog.info? 3).map (fun i=>(i.zero,i.size,i.bytes))=some (some (.int .i64 0),1,8):=by kernel_rfl
theorem tW.len {w:World} {v:Value} {l:List Nat} (h:tW w v l):∃a c,v= .slice a l.length c∧l.length≤c:=by
 rcases h with⟨rfl,rfl⟩|⟨g,off,c,rfl,hc,_⟩;·exact⟨none,0,rfl,Nat.le_refl _⟩
 ·exact⟨_,c,rfl,hc⟩
theorem tW.below {w w':World} {v:Value} {l:List Nat} (h:tW w v l) (hb:Below w.heap.size w w'):tW w' v l:=by
 rcases h with h|⟨g,off,c,hv,hc,aW⟩;·exact .inl h
 ·refine .inr ⟨g,off,c,hv,hc,fun j hj=>?_⟩;have h1:=aW j hj;have hg:g < w.heap.size:=by
   rcases Nat.lt_or_ge g w.heap.size with bC|An;·exact bC
   ·simp[World.cell?,Array.getElem?_eq_none An] at h1
  exact(hb.cell (p:=⟨g,off+j,none⟩) hg).trans h1
theorem pA.nil (w:World) (base:Nat):pA w base (.slice none 0 0) []:=World.ownsRow_nil _ _ _ _
theorem pA.read {w:World} {base:Nat} {v:Value} {l:List Nat} (h:pA w base v l):tW w v l:=by
 have h':=h;obtain⟨h1,h2⟩:=h;rcases h2 with⟨rfl,h3⟩|⟨g,cap,cur,rfl,hg,hh,hc,hm,hs,ht⟩;·exact .inl ⟨rfl,List.length_eq_zero_iff.1 h3⟩
 ·refine .inr ⟨g,0,cap,rfl,hc,fun j hj=>?_⟩;have:=World.ownsRow.cells h' (g:=g) rfl j (.int .i64 (l[j]:Int)) (by rw[List.getElem?_map,List.getElem?_eq_getElem hj];rfl);rw[CG] at this;rw[Nat.zero_add];exact this
theorem pA.below {w w':World} {base:Nat} {v:Value} {l:List Nat} (h:pA w base v l) (hb:Below w.heap.size w w'):pA w' base v l:=by
 obtain⟨h1,h2⟩:=h;refine⟨h1,?_⟩;rcases h2 with h2|⟨g,cap,cur,hv,hg,hh,r⟩;·exact .inl h2
 ·exact .inr ⟨g,cap,cur,hv,hg,by rw[hb.block g (Array.getElem?_eq_some_iff.1 hh).1];exact hh,r⟩
theorem pA.mono {w:World} {base base':Nat} {v:Value} {l:List Nat} (h:pA w base v l) (hb:base'≤base):pA w base' v l:=by
 obtain⟨h1,h2⟩:=h;refine⟨h1,?_⟩;rcases h2 with h2|⟨g,cap,cur,hv,hg,r⟩;·exact .inl h2
 ·exact .inr ⟨g,cap,cur,hv,Nat.le_trans hb hg,r⟩
theorem wA {ops:Array Oper} {rest:List Oper} {o:Oper} {a:Act} {Q:Exit→Act→World→Prop} (w:World) (base:Nat) (v:Value) (l:List Nat) (c:Nat) {n:Int} (hn:n=(c:Int))
 (tJ:o.guard=none) (s x:Operand) (ho:o.op= .call {callee:= .builtin .append,args:= #[s,x],argTypes:= #[221,221]})
 (hs:a.eval s=v) (bE:pA w base v l) (hx:a.eval x= .slice (some ⟨w.heap.size,0,none⟩) 1 1) (hlen:l.length≤4000000000) (kW:base≤w.heap.size)
 (h:∀v' w',pA w' base v' (l++[c])→Below base w w'→wpList Tryz.prog ops Q rest (a.put o.dst v') w'):wpList Tryz.prog ops Q (o::rest) a (w.alloc (.cells #[.int .i64 n] 3)):=by
 subst hn;obtain⟨i0,hi,vN,rW,qK⟩:=info_parts Ym;refine wpList_append_own _ tJ s x 221 ho base 3 i0 (.int .i64 0) 1 8 Tryz.underlying221 hi vN rW qK rfl (by decide) v l.length (l.map pE) hs (World.ownsRow.alloc bE _) ⟨w.heap.size,0,none⟩ 1 1 [pE c] hx rfl
  ?_ ?_ (by unfold maxLen;omega) (by omega) (by simp;omega) fun v' w' h1 h2 _=>?_
 ·intro j u hj
  match j,hj with
  |0,hj=>simp at hj;subst hj;exact World.cell?_alloc_mark w #[pE c] 3 (0,0) 0
 ·intro u hu;simp at hu;subst hu;rfl
 ·refine h v' w' ?_ ?_;·unfold pA;simpa using h1
  ·have eN:Below base w (w.alloc (.cells #[.int .i64 (c:Int)] 3)):=(Below.refl _ _).alloc kW _;exact eN.grown h2 (by simp;omega) (fun k hk=>(World.ownsRow.lt bE k hk).1)
theorem tW.form {w:World} {v:Value} {l:List Nat} (h:tW w v l) (hn:l≠[]):∃g off c,v= .slice (some ⟨g,off,none⟩) l.length c∧l.length≤c∧∀j (h:j < l.length),w.cell? ⟨g,off+j,none⟩=some (.int .i64 (l[j]:Int)):=by
 rcases h with⟨_,h⟩|h;·exact absurd h hn
 ·exact h
def jM:List UInt8→Bool
 |[a,b]=>mX a&&((b.toNat:Int)==58||(b.toNat:Int)==124)
 |_=>false
def jN:List UInt8→Bool
 |[a,b]=>mX a&&((b.toNat:Int)==58||(b.toNat:Int)==124)&&(b.toNat:Int)==58
 |_=>false
theorem Yn {s:ByteArray} (h:s.size=2):∃a b,s=⟨#[a,b]⟩:=by
 obtain⟨⟨l⟩⟩:=s;have h:l.length=2:=h
 match l,h with
 |[a,b],_=>exact⟨a,b,rfl⟩
theorem Rv {s:ByteArray} (h:s.size=2):jM s.data.toList=(mX s[0]&&(((s[1].toNat:Int)==58)||((s[1].toNat:Int)==124))):=by obtain⟨a,b,rfl⟩:=Yn h;rfl
theorem Oa {s:ByteArray} (h:s.size=2):jN s.data.toList=(jM s.data.toList&&((s[1].toNat:Int)==58)):=by obtain⟨a,b,rfl⟩:=Yn h;rfl
theorem K4 {s:ByteArray} (h:s.size≠2):jM s.data.toList=false:=by
 obtain⟨⟨l⟩⟩:=s;have h:l.length≠2:=h
 match l,h with
 |[],_=>rfl
 |[_],_=>rfl
 |[_,_],h=>simp at h
 |_::_::_::_,_=>rfl
theorem Rx {s:ByteArray} (h:s.size≠2):jN s.data.toList=false:=by
 obtain⟨⟨l⟩⟩:=s;have h:l.length≠2:=h
 match l,h with
 |[],_=>rfl
 |[_],_=>rfl
 |[_,_],h=>simp at h
 |_::_::_::_,_=>rfl
theorem Ug {s:ByteArray} (h:s.size≠2):((s.size:Int)==2)=false:=by simp;omega
theorem Ob {s:ByteArray} (h:s.size=2):((s.size:Int)==2)=true:=by simp;omega
theorem sT (s:ByteArray) (w:World):
 Calls Tryz.prog 175 #[.string s] w fun e w'=>e= .returned (.bool (jM s.data.toList))∧w=w':=by
 by_cases h:s.size=2
 ·have hd:=hid (Rv h);have h2:=Ob h;have bC:(s[1]).toNat < 256:=s[1].toNat_lt;rw[hd.out];clear hd;generalize hL:mX s[0]=L;have HL:=hid hL;clear hL;go_enter Tryz.func175,Tryz.ntmps175;go_wp2_with (go_at_call 91;refine(zH _ _).mono ?_;rintro e w2 ⟨rfl,rfl⟩;rw[HL.out]);all_goals go_ret
  all_goals refine⟨aZ ?_,rfl⟩
  all_goals(simp_all)
 ·rw[K4 h];have h2:=Ug h;clear h;go_enter Tryz.func175,Tryz.ntmps175;go_wp2_with fail;all_goals go_ret
  all_goals exact⟨aZ rfl,rfl⟩
theorem zN (s:ByteArray) (w:World):
 Calls Tryz.prog 135 #[.string s] w fun e w'=>e= .returned (.bool (jN s.data.toList))∧w=w':=by
 by_cases h:s.size=2
 ·have hd:=hid (Oa h);have bC:(s[1]).toNat < 256:=s[1].toNat_lt;rw[hd.out];clear hd;generalize hL:jM s.data.toList=L;have HL:=hid hL;clear hL;go_enter Tryz.func135,Tryz.ntmps135;go_wp2_with (go_at_call 175;refine(sT _ _).mono ?_;rintro e w2 ⟨rfl,rfl⟩;rw[HL.out]);all_goals go_ret
  all_goals refine⟨aZ ?_,rfl⟩
  all_goals(simp_all)
 ·rw[Rx h];have HL:=hid (K4 h);clear h;go_enter Tryz.func135,Tryz.ntmps135;go_wp2_with (go_at_call 175;refine(sT _ _).mono ?_;rintro e w2 ⟨rfl,rfl⟩;rw[HL.out]);all_goals go_ret
  all_goals exact⟨aZ rfl,rfl⟩
theorem wB (s:ByteArray) (w:World) (hs:s.size≤4000000000):
 Calls Tryz.prog 19 #[.string s] w fun e w'=>e= .returned (.string ⟨(rH s.data.toList).toArray⟩)∧Below w.heap.size w w':=by
 have G2:=run_bytes_of_string (P:=Tryz.prog) w 9 25 5 s Tryz.underlying9 Tryz.underlying25 Tryz.underlying5;have K5:=Dm s w (grownCap w s.size 0 5) 5;have uD:=Below.made s w (grownCap w s.size 0 5) 5;have hlen:Hid (s.data.toList.length=s.size):=hid (by simp);generalize agG:grownCap w s.size 0 5=cap at*;clear agG;go_enter Tryz.func19,Tryz.ntmps19;go_wp2;clear G2;go_loopw [10] (fun i wr=>∃k:Nat,k≤s.size∧i= .int .i64 k∧vZ wr w.heap.size (mK s.data.toList k)∧Below w.heap.size w wr) (fun i _=>s.size - (intOf i).toNat);case atStart=>exact⟨0,Nat.zero_le _,rfl,by rw[Mg];exact K5,uD⟩
 case round=>
  obtain⟨k,hk,rfl,tL,dB⟩:=hrel;clear K5 uD;by_cases bC:k < s.size
  ·have mD:k < s.data.toList.length:=by rw[hlen.out];exact bC
   have hkp:k < (mK s.data.toList k).length:=by rw[AU];exact mD
   obtain⟨hc,hf⟩:=tL k hkp;rw[FC _ _ mD] at hc;obtain⟨x,hx⟩:∃x,x=s.data.toList[k]:=⟨_,rfl⟩;rw[←hx] at hc;have Hx:=hid hx;clear hx;have uW:x.toNat < 256:=x.toNat_lt;by_cases hup:65≤x.toNat∧x.toNat≤90
   ·have hn:=Dl s.data.toList k mD;rw[←Hx.out] at hn;have tG:=tL.set hkp (Mf x);rw[←hn,abT hup] at tG;have HN:=hid tG;clear hn tG;obtain⟨h65,h90⟩:=hup;go_wp2;go_roundw;case rel=>exact⟨k+1,by omega,by go_num,HN.out,dB.setCell (Nat.le_refl _) _⟩
    case measure=>simp[intOf];omega
   ·have hn:=NZ s.data.toList k mD (by rw[←Hx.out];exact hup);rw[←hn] at tL;clear hn;by_cases h65:65≤x.toNat
    ·have h90:90 < x.toNat:=by omega
     go_wp2;go_roundw;case rel=>exact⟨k+1,by omega,by go_num,tL,dB⟩
     case measure=>simp[intOf];omega
    ·go_wp2;go_roundw;case rel=>exact⟨k+1,by omega,by go_num,tL,dB⟩
     case measure=>simp[intOf];omega
  ·obtain rfl:k=s.size:=by omega
   rw[←hlen.out,NY] at tL;have hcb:=run_convert_bytes_back (P:=Tryz.prog) wr 25 9 5 ⟨w.heap.size,0,none⟩ cap (rH s.data.toList) Tryz.underlying25 Tryz.underlying5 Tryz.underlying9 (fun j hj=>by
    rw[CG];exact(tL j hj).1)
   have Uh:(rH s.data.toList).length=s.size:=by rw[←hlen.out];simp[rH]
   rw[Uh] at hcb;clear Uh;go_wp2;go_ret;exact⟨rfl,dB⟩
def Ry (s:ByteArray):List ByteArray→Bool
 |[x]=>s.toList==[102,105,108,101]&&jN x.data.toList
 |_=>false
def lR (s:ByteArray) (l:List ByteArray):List ByteArray:=if Ry s l=true then l else l.take (l.length - 1)
theorem A8 {s:ByteArray} {l:List ByteArray} (h:2≤l.length):lR s l=l.take (l.length - 1):=by
 match l,h with
 |_::_::_,_=>rfl
theorem Rz {n k:Nat} (h:n≠k):((n:Int)==(k:Int))=false:=by simp;omega
theorem RA {s:ByteArray} {l:List ByteArray}:(lR s l).length≤l.length:=by
 unfold lR;split;·exact Nat.le_refl _
 ·simp
set_option maxHeartbeats 4000000000 in
theorem Kc (s:ByteArray) (v:Value) (l:List ByteArray) (w:World) (hv:bT w v l) (hl:l.length≤1000000000):
 Calls Tryz.prog 139 #[.string s,v] w fun e w'=>∃v',e= .returned v'∧fN w' w.heap.size v' (lR s l)∧Below w.heap.size w w':=by
 have hv0:=hv;rcases hv with⟨rfl,rfl⟩|⟨g,off,c,rfl,hc,aW⟩;have tg:=Tg.k 0;rotate_left;have HC:=hid aW;clear aW;by_cases h0:l.length=0;obtain rfl:l=[]:=List.length_eq_zero_iff.1 h0;have Dx:bT w (.slice (some ⟨g,off,none⟩) 0 c) []:=hv0;clear h0;have tg:=Tg.k 1;rotate_left;by_cases h1:l.length=1;obtain⟨x,rfl⟩:=List.length_eq_one_iff.1 h1;have hx:w.cell? ⟨g,off,none⟩=some (.string x):=HC.out 0 (by simp);have Oc:1≤c:=by simpa using hc
 have Dx:bT w (.slice (some ⟨g,off,none⟩) 1 c) [x]:=hv0;have Yo:bT w (.slice (some ⟨g,off,none⟩) 0 c) []:=by have:=bT.take hv0 (n:=0) (by simp);simpa using this
 clear h0 h1 hc hl HC hv0;cases hf:(s.toList==[102,105,108,101]);have Gn:lR s [x]=[]:=by unfold lR Ry;rw[hf];rfl
 rw[Gn];clear Gn;have tg:=Tg.k 2;rotate_left;cases hn:jN x.data.toList;have Gn:lR s [x]=[]:=by show(if(s.toList==[102,105,108,101]&&jN x.data.toList)=true then[x] else[x].take 0)=[];rw[hf,hn];rfl
 rw[Gn];have HN:=hid hn;clear Gn hn;have tg:=Tg.k 3;rotate_left;have Gn:lR s [x]=[x]:=by show(if(s.toList==[102,105,108,101]&&jN x.data.toList)=true then[x] else[x].take 0)=[x];rw[hf,hn];rfl
 rw[Gn];have HN:=hid hn;clear Gn hn;have tg:=Tg.k 4;rotate_left;have hm:=A8 (s:=s) (l:=l) (by omega);rw[hm];have hn1:=Rz h1;have hz:=bT.take hv0 (n:=l.length - 1) (by omega);have e1:IntKind.i64.wrap ((l.length:Int) - 1)=((l.length - 1:Nat):Int):=by rw[IntWalk.i64_in _ (by omega)];omega
 have bC:(l.take (l.length - 1)).length≤1000000000:=by simp;omega
 clear hm HC hv0;generalize hk:l.length - 1=k at*;have hkc:k≤c:=by omega
 have zO:0 < l.length:=by omega
 have tg:=Tg.k 5;all_goals
  go_enter Tryz.func139,Tryz.ntmps139;go_wp2_with (first|(at_builtin;refine bO rfl _ _ rfl rfl (fN.nil _ w.heap.size) rfl hv0 (by simp) (Nat.le_refl _) ?_;intro v' w1 ho hb)|(at_builtin;refine bO rfl _ _ rfl rfl (fN.nil _ w.heap.size) rfl Dx (by simp) (Nat.le_refl _) ?_;intro v' w1 ho hb)|(at_builtin;refine bO rfl _ _ rfl rfl (fN.nil _ w.heap.size) rfl Yo (by simp) (Nat.le_refl _) ?_;intro v' w1 ho hb)|(at_builtin;refine bO rfl _ _ rfl rfl (fN.nil _ w.heap.size) rfl hz (by simpa using (by omega:(l.take k).length≤4000000000)) (Nat.le_refl _) ?_;intro v' w1 ho hb));first
  |have:Tg 5:=tg;all_goals(go_ret;exact⟨_,rfl,ho,hb⟩)
  |first
   |(first|have:Tg 3:=tg|have:Tg 4:=tg)
    refine(zN _ _).mono ?_;rintro e w2 ⟨rfl,rfl⟩;rw[HN.out];go_wp2_with (first|(at_builtin;refine bO rfl _ _ rfl rfl (fN.nil _ w.heap.size) rfl Yo (by simp) (Nat.le_refl _) ?_;intro v' w1 ho hb)|(at_builtin;refine bO rfl _ _ rfl rfl (fN.nil _ w.heap.size) rfl Dx (by simp) (Nat.le_refl _) ?_;intro v' w1 ho hb))
   |skip
   go_ret;exact⟨_,rfl,ho,hb⟩
end Go.Proofs.YtmgmclkplepapaaGreatDoor
