/- Part of the proof of TopBoundsUptoCardSaid. Conditions: none beyond the statement. -/
import Derived.Test.YtmgmclkplepapaaGreatDoorPt7
set_option linter.all false
set_option maxRecDepth 100000
set_option maxHeartbeats 64000000
namespace Go.Proofs.YtmgmclkplepapaaGreatDoor
open Go.RowKit
def Dv (o:Option (List UInt8)):Value:= .tuple #[.string (aA (o.getD [])),.bool o.isSome]
theorem EC {o:Option (List UInt8)} {t:List UInt8} (h:o=some t):Ending.returned (.tuple #[.string ⟨t.toArray⟩,.bool true])= .returned (Dv o):=by subst h;rfl
theorem K4 {o:Option (List UInt8)} (h:o=none):Ending.returned (.tuple #[.string ⟨#[]⟩,.bool false])= .returned (Dv o):=by subst h;rfl
theorem ajW {s:ByteArray} {l:List UInt8} (h:s.data.toList=l) (n:List UInt8):(s.toList==n)=(l==n):=by rw[ByteArray.toList_eq,h]
theorem kF {s:ByteArray} {l:List UInt8} (h:s.data.toList=l) (n:List UInt8) (k:(l==n)=false):(s.toList==n)=false:=(ajW h n).trans k
theorem kT {s:ByteArray} {l:List UInt8} (h:s.data.toList=l) (n:List UInt8) (k:(l==n)=true):(s.toList==n)=true:=(ajW h n).trans k
theorem gT {s:ByteArray} {l:List UInt8} (h:¬s.data.toList=l):(s.toList==l)=false:=by rw[ByteArray.toList_eq,beq_eq_false_iff_ne];exact h
theorem Rv (s:ByteArray) (w:World):
 Calls Tryz.prog 166 #[.string s] w fun e w'=>e= .returned (Dv (aX iR s.data.toList))∧w=w':=by
 by_cases h0:s.data.toList=[97,109,112];have k0:=kT h0 [97,109,112] rfl;have k1:=kF h0 [65,77,80] rfl;have k2:=kF h0 [108,116] rfl;have k3:=kF h0 [76,84] rfl;have k4:=kF h0 [103,116] rfl;have k5:=kF h0 [71,84] rfl;have k6:=kF h0 [113,117,111,116] rfl;have k7:=kF h0 [81,85,79,84] rfl;have k8:=kF h0 [110,98,115,112] rfl;have k9:=kF h0 [115,104,121] rfl;have J3:=kF h0 [110,111,116] rfl;have J4:=kF h0 [114,101,103] rfl;have J5:=kF h0 [99,111,112,121] rfl;have J6:=kF h0 [112,97,114,97] rfl;have J7:=kF h0 [115,101,99,116] rfl;have J8:=kF h0 [121,101,110] rfl;have J9:=kF h0 [100,101,103] rfl;have Ka:=kF h0 [116,105,109,101,115] rfl;have zM:=kF h0 [101,97,99,117,116,101] rfl;have Kb:=kF h0 [111,117,109,108] rfl;have Kc:=kF h0 [115,122,108,105,103] rfl;have ht:aX iR s.data.toList=some [38]:=by rw[h0];decide+kernel
 have HT:=hid ht;clear ht h0;have tg:=Tg.k 0;rotate_left;by_cases h1:s.data.toList=[65,77,80];have k0:=kF h1 [97,109,112] rfl;have k1:=kT h1 [65,77,80] rfl;have k2:=kF h1 [108,116] rfl;have k3:=kF h1 [76,84] rfl;have k4:=kF h1 [103,116] rfl;have k5:=kF h1 [71,84] rfl;have k6:=kF h1 [113,117,111,116] rfl;have k7:=kF h1 [81,85,79,84] rfl;have k8:=kF h1 [110,98,115,112] rfl;have k9:=kF h1 [115,104,121] rfl;have J3:=kF h1 [110,111,116] rfl;have J4:=kF h1 [114,101,103] rfl;have J5:=kF h1 [99,111,112,121] rfl;have J6:=kF h1 [112,97,114,97] rfl;have J7:=kF h1 [115,101,99,116] rfl;have J8:=kF h1 [121,101,110] rfl;have J9:=kF h1 [100,101,103] rfl;have Ka:=kF h1 [116,105,109,101,115] rfl;have zM:=kF h1 [101,97,99,117,116,101] rfl;have Kb:=kF h1 [111,117,109,108] rfl;have Kc:=kF h1 [115,122,108,105,103] rfl;have ht:aX iR s.data.toList=some [38]:=by rw[h1];decide+kernel
 have HT:=hid ht;clear ht h1;clear h0;have tg:=Tg.k 1;rotate_left;by_cases h2:s.data.toList=[108,116];have k0:=kF h2 [97,109,112] rfl;have k1:=kF h2 [65,77,80] rfl;have k2:=kT h2 [108,116] rfl;have k3:=kF h2 [76,84] rfl;have k4:=kF h2 [103,116] rfl;have k5:=kF h2 [71,84] rfl;have k6:=kF h2 [113,117,111,116] rfl;have k7:=kF h2 [81,85,79,84] rfl;have k8:=kF h2 [110,98,115,112] rfl;have k9:=kF h2 [115,104,121] rfl;have J3:=kF h2 [110,111,116] rfl;have J4:=kF h2 [114,101,103] rfl;have J5:=kF h2 [99,111,112,121] rfl;have J6:=kF h2 [112,97,114,97] rfl;have J7:=kF h2 [115,101,99,116] rfl;have J8:=kF h2 [121,101,110] rfl;have J9:=kF h2 [100,101,103] rfl;have Ka:=kF h2 [116,105,109,101,115] rfl;have zM:=kF h2 [101,97,99,117,116,101] rfl;have Kb:=kF h2 [111,117,109,108] rfl;have Kc:=kF h2 [115,122,108,105,103] rfl;have ht:aX iR s.data.toList=some [60]:=by rw[h2];decide+kernel
 have HT:=hid ht;clear ht h2;clear h0 h1;have tg:=Tg.k 2;rotate_left;by_cases h3:s.data.toList=[76,84];have k0:=kF h3 [97,109,112] rfl;have k1:=kF h3 [65,77,80] rfl;have k2:=kF h3 [108,116] rfl;have k3:=kT h3 [76,84] rfl;have k4:=kF h3 [103,116] rfl;have k5:=kF h3 [71,84] rfl;have k6:=kF h3 [113,117,111,116] rfl;have k7:=kF h3 [81,85,79,84] rfl;have k8:=kF h3 [110,98,115,112] rfl;have k9:=kF h3 [115,104,121] rfl;have J3:=kF h3 [110,111,116] rfl;have J4:=kF h3 [114,101,103] rfl;have J5:=kF h3 [99,111,112,121] rfl;have J6:=kF h3 [112,97,114,97] rfl;have J7:=kF h3 [115,101,99,116] rfl;have J8:=kF h3 [121,101,110] rfl;have J9:=kF h3 [100,101,103] rfl;have Ka:=kF h3 [116,105,109,101,115] rfl;have zM:=kF h3 [101,97,99,117,116,101] rfl;have Kb:=kF h3 [111,117,109,108] rfl;have Kc:=kF h3 [115,122,108,105,103] rfl;have ht:aX iR s.data.toList=some [60]:=by rw[h3];decide+kernel
 have HT:=hid ht;clear ht h3;clear h0 h1 h2;have tg:=Tg.k 3;rotate_left;by_cases h4:s.data.toList=[103,116];have k0:=kF h4 [97,109,112] rfl;have k1:=kF h4 [65,77,80] rfl;have k2:=kF h4 [108,116] rfl;have k3:=kF h4 [76,84] rfl;have k4:=kT h4 [103,116] rfl;have k5:=kF h4 [71,84] rfl;have k6:=kF h4 [113,117,111,116] rfl;have k7:=kF h4 [81,85,79,84] rfl;have k8:=kF h4 [110,98,115,112] rfl;have k9:=kF h4 [115,104,121] rfl;have J3:=kF h4 [110,111,116] rfl;have J4:=kF h4 [114,101,103] rfl;have J5:=kF h4 [99,111,112,121] rfl;have J6:=kF h4 [112,97,114,97] rfl;have J7:=kF h4 [115,101,99,116] rfl;have J8:=kF h4 [121,101,110] rfl;have J9:=kF h4 [100,101,103] rfl;have Ka:=kF h4 [116,105,109,101,115] rfl;have zM:=kF h4 [101,97,99,117,116,101] rfl;have Kb:=kF h4 [111,117,109,108] rfl;have Kc:=kF h4 [115,122,108,105,103] rfl;have ht:aX iR s.data.toList=some [62]:=by rw[h4];decide+kernel
 have HT:=hid ht;clear ht h4;clear h0 h1 h2 h3;have tg:=Tg.k 4;rotate_left;by_cases h5:s.data.toList=[71,84];have k0:=kF h5 [97,109,112] rfl;have k1:=kF h5 [65,77,80] rfl;have k2:=kF h5 [108,116] rfl;have k3:=kF h5 [76,84] rfl;have k4:=kF h5 [103,116] rfl;have k5:=kT h5 [71,84] rfl;have k6:=kF h5 [113,117,111,116] rfl;have k7:=kF h5 [81,85,79,84] rfl;have k8:=kF h5 [110,98,115,112] rfl;have k9:=kF h5 [115,104,121] rfl;have J3:=kF h5 [110,111,116] rfl;have J4:=kF h5 [114,101,103] rfl;have J5:=kF h5 [99,111,112,121] rfl;have J6:=kF h5 [112,97,114,97] rfl;have J7:=kF h5 [115,101,99,116] rfl;have J8:=kF h5 [121,101,110] rfl;have J9:=kF h5 [100,101,103] rfl;have Ka:=kF h5 [116,105,109,101,115] rfl;have zM:=kF h5 [101,97,99,117,116,101] rfl;have Kb:=kF h5 [111,117,109,108] rfl;have Kc:=kF h5 [115,122,108,105,103] rfl;have ht:aX iR s.data.toList=some [62]:=by rw[h5];decide+kernel
 have HT:=hid ht;clear ht h5;clear h0 h1 h2 h3 h4;have tg:=Tg.k 5;rotate_left;by_cases h6:s.data.toList=[113,117,111,116];have k0:=kF h6 [97,109,112] rfl;have k1:=kF h6 [65,77,80] rfl;have k2:=kF h6 [108,116] rfl;have k3:=kF h6 [76,84] rfl;have k4:=kF h6 [103,116] rfl;have k5:=kF h6 [71,84] rfl;have k6:=kT h6 [113,117,111,116] rfl;have k7:=kF h6 [81,85,79,84] rfl;have k8:=kF h6 [110,98,115,112] rfl;have k9:=kF h6 [115,104,121] rfl;have J3:=kF h6 [110,111,116] rfl;have J4:=kF h6 [114,101,103] rfl;have J5:=kF h6 [99,111,112,121] rfl;have J6:=kF h6 [112,97,114,97] rfl;have J7:=kF h6 [115,101,99,116] rfl;have J8:=kF h6 [121,101,110] rfl;have J9:=kF h6 [100,101,103] rfl;have Ka:=kF h6 [116,105,109,101,115] rfl;have zM:=kF h6 [101,97,99,117,116,101] rfl;have Kb:=kF h6 [111,117,109,108] rfl;have Kc:=kF h6 [115,122,108,105,103] rfl;have ht:aX iR s.data.toList=some [34]:=by rw[h6];decide+kernel
 have HT:=hid ht;clear ht h6;clear h0 h1 h2 h3 h4 h5;have tg:=Tg.k 6;rotate_left;by_cases h7:s.data.toList=[81,85,79,84];have k0:=kF h7 [97,109,112] rfl;have k1:=kF h7 [65,77,80] rfl;have k2:=kF h7 [108,116] rfl;have k3:=kF h7 [76,84] rfl;have k4:=kF h7 [103,116] rfl;have k5:=kF h7 [71,84] rfl;have k6:=kF h7 [113,117,111,116] rfl;have k7:=kT h7 [81,85,79,84] rfl;have k8:=kF h7 [110,98,115,112] rfl;have k9:=kF h7 [115,104,121] rfl;have J3:=kF h7 [110,111,116] rfl;have J4:=kF h7 [114,101,103] rfl;have J5:=kF h7 [99,111,112,121] rfl;have J6:=kF h7 [112,97,114,97] rfl;have J7:=kF h7 [115,101,99,116] rfl;have J8:=kF h7 [121,101,110] rfl;have J9:=kF h7 [100,101,103] rfl;have Ka:=kF h7 [116,105,109,101,115] rfl;have zM:=kF h7 [101,97,99,117,116,101] rfl;have Kb:=kF h7 [111,117,109,108] rfl;have Kc:=kF h7 [115,122,108,105,103] rfl;have ht:aX iR s.data.toList=some [34]:=by rw[h7];decide+kernel
 have HT:=hid ht;clear ht h7;clear h0 h1 h2 h3 h4 h5 h6;have tg:=Tg.k 7;rotate_left;by_cases h8:s.data.toList=[110,98,115,112];have k0:=kF h8 [97,109,112] rfl;have k1:=kF h8 [65,77,80] rfl;have k2:=kF h8 [108,116] rfl;have k3:=kF h8 [76,84] rfl;have k4:=kF h8 [103,116] rfl;have k5:=kF h8 [71,84] rfl;have k6:=kF h8 [113,117,111,116] rfl;have k7:=kF h8 [81,85,79,84] rfl;have k8:=kT h8 [110,98,115,112] rfl;have k9:=kF h8 [115,104,121] rfl;have J3:=kF h8 [110,111,116] rfl;have J4:=kF h8 [114,101,103] rfl;have J5:=kF h8 [99,111,112,121] rfl;have J6:=kF h8 [112,97,114,97] rfl;have J7:=kF h8 [115,101,99,116] rfl;have J8:=kF h8 [121,101,110] rfl;have J9:=kF h8 [100,101,103] rfl;have Ka:=kF h8 [116,105,109,101,115] rfl;have zM:=kF h8 [101,97,99,117,116,101] rfl;have Kb:=kF h8 [111,117,109,108] rfl;have Kc:=kF h8 [115,122,108,105,103] rfl;have ht:aX iR s.data.toList=some [194,160]:=by rw[h8];decide+kernel
 have HT:=hid ht;clear ht h8;clear h0 h1 h2 h3 h4 h5 h6 h7;have tg:=Tg.k 8;rotate_left;by_cases h9:s.data.toList=[115,104,121];have k0:=kF h9 [97,109,112] rfl;have k1:=kF h9 [65,77,80] rfl;have k2:=kF h9 [108,116] rfl;have k3:=kF h9 [76,84] rfl;have k4:=kF h9 [103,116] rfl;have k5:=kF h9 [71,84] rfl;have k6:=kF h9 [113,117,111,116] rfl;have k7:=kF h9 [81,85,79,84] rfl;have k8:=kF h9 [110,98,115,112] rfl;have k9:=kT h9 [115,104,121] rfl;have J3:=kF h9 [110,111,116] rfl;have J4:=kF h9 [114,101,103] rfl;have J5:=kF h9 [99,111,112,121] rfl;have J6:=kF h9 [112,97,114,97] rfl;have J7:=kF h9 [115,101,99,116] rfl;have J8:=kF h9 [121,101,110] rfl;have J9:=kF h9 [100,101,103] rfl;have Ka:=kF h9 [116,105,109,101,115] rfl;have zM:=kF h9 [101,97,99,117,116,101] rfl;have Kb:=kF h9 [111,117,109,108] rfl;have Kc:=kF h9 [115,122,108,105,103] rfl;have ht:aX iR s.data.toList=some [194,173]:=by rw[h9];decide+kernel
 have HT:=hid ht;clear ht h9;clear h0 h1 h2 h3 h4 h5 h6 h7 h8;have tg:=Tg.k 9;rotate_left;by_cases zN:s.data.toList=[110,111,116];have k0:=kF zN [97,109,112] rfl;have k1:=kF zN [65,77,80] rfl;have k2:=kF zN [108,116] rfl;have k3:=kF zN [76,84] rfl;have k4:=kF zN [103,116] rfl;have k5:=kF zN [71,84] rfl;have k6:=kF zN [113,117,111,116] rfl;have k7:=kF zN [81,85,79,84] rfl;have k8:=kF zN [110,98,115,112] rfl;have k9:=kF zN [115,104,121] rfl;have J3:=kT zN [110,111,116] rfl;have J4:=kF zN [114,101,103] rfl;have J5:=kF zN [99,111,112,121] rfl;have J6:=kF zN [112,97,114,97] rfl;have J7:=kF zN [115,101,99,116] rfl;have J8:=kF zN [121,101,110] rfl;have J9:=kF zN [100,101,103] rfl;have Ka:=kF zN [116,105,109,101,115] rfl;have zM:=kF zN [101,97,99,117,116,101] rfl;have Kb:=kF zN [111,117,109,108] rfl;have Kc:=kF zN [115,122,108,105,103] rfl;have ht:aX iR s.data.toList=some [194,172]:=by rw[zN];decide+kernel
 have HT:=hid ht;clear ht zN;clear h0 h1 h2 h3 h4 h5 h6 h7 h8 h9;have tg:=Tg.k 10;rotate_left;by_cases Ap:s.data.toList=[114,101,103];have k0:=kF Ap [97,109,112] rfl;have k1:=kF Ap [65,77,80] rfl;have k2:=kF Ap [108,116] rfl;have k3:=kF Ap [76,84] rfl;have k4:=kF Ap [103,116] rfl;have k5:=kF Ap [71,84] rfl;have k6:=kF Ap [113,117,111,116] rfl;have k7:=kF Ap [81,85,79,84] rfl;have k8:=kF Ap [110,98,115,112] rfl;have k9:=kF Ap [115,104,121] rfl;have J3:=kF Ap [110,111,116] rfl;have J4:=kT Ap [114,101,103] rfl;have J5:=kF Ap [99,111,112,121] rfl;have J6:=kF Ap [112,97,114,97] rfl;have J7:=kF Ap [115,101,99,116] rfl;have J8:=kF Ap [121,101,110] rfl;have J9:=kF Ap [100,101,103] rfl;have Ka:=kF Ap [116,105,109,101,115] rfl;have zM:=kF Ap [101,97,99,117,116,101] rfl;have Kb:=kF Ap [111,117,109,108] rfl;have Kc:=kF Ap [115,122,108,105,103] rfl;have ht:aX iR s.data.toList=some [194,174]:=by rw[Ap];decide+kernel
 have HT:=hid ht;clear ht Ap;clear h0 h1 h2 h3 h4 h5 h6 h7 h8 h9 zN;have tg:=Tg.k 11;rotate_left;by_cases xH:s.data.toList=[99,111,112,121];have k0:=kF xH [97,109,112] rfl;have k1:=kF xH [65,77,80] rfl;have k2:=kF xH [108,116] rfl;have k3:=kF xH [76,84] rfl;have k4:=kF xH [103,116] rfl;have k5:=kF xH [71,84] rfl;have k6:=kF xH [113,117,111,116] rfl;have k7:=kF xH [81,85,79,84] rfl;have k8:=kF xH [110,98,115,112] rfl;have k9:=kF xH [115,104,121] rfl;have J3:=kF xH [110,111,116] rfl;have J4:=kF xH [114,101,103] rfl;have J5:=kT xH [99,111,112,121] rfl;have J6:=kF xH [112,97,114,97] rfl;have J7:=kF xH [115,101,99,116] rfl;have J8:=kF xH [121,101,110] rfl;have J9:=kF xH [100,101,103] rfl;have Ka:=kF xH [116,105,109,101,115] rfl;have zM:=kF xH [101,97,99,117,116,101] rfl;have Kb:=kF xH [111,117,109,108] rfl;have Kc:=kF xH [115,122,108,105,103] rfl;have ht:aX iR s.data.toList=some [194,169]:=by rw[xH];decide+kernel
 have HT:=hid ht;clear ht xH;clear h0 h1 h2 h3 h4 h5 h6 h7 h8 h9 zN Ap;have tg:=Tg.k 12;rotate_left;by_cases AD:s.data.toList=[112,97,114,97];have k0:=kF AD [97,109,112] rfl;have k1:=kF AD [65,77,80] rfl;have k2:=kF AD [108,116] rfl;have k3:=kF AD [76,84] rfl;have k4:=kF AD [103,116] rfl;have k5:=kF AD [71,84] rfl;have k6:=kF AD [113,117,111,116] rfl;have k7:=kF AD [81,85,79,84] rfl;have k8:=kF AD [110,98,115,112] rfl;have k9:=kF AD [115,104,121] rfl;have J3:=kF AD [110,111,116] rfl;have J4:=kF AD [114,101,103] rfl;have J5:=kF AD [99,111,112,121] rfl;have J6:=kT AD [112,97,114,97] rfl;have J7:=kF AD [115,101,99,116] rfl;have J8:=kF AD [121,101,110] rfl;have J9:=kF AD [100,101,103] rfl;have Ka:=kF AD [116,105,109,101,115] rfl;have zM:=kF AD [101,97,99,117,116,101] rfl;have Kb:=kF AD [111,117,109,108] rfl;have Kc:=kF AD [115,122,108,105,103] rfl;have ht:aX iR s.data.toList=some [194,182]:=by rw[AD];decide+kernel
 have HT:=hid ht;clear ht AD;clear h0 h1 h2 h3 h4 h5 h6 h7 h8 h9 zN Ap xH;have tg:=Tg.k 13;rotate_left;by_cases vN:s.data.toList=[115,101,99,116];have k0:=kF vN [97,109,112] rfl;have k1:=kF vN [65,77,80] rfl;have k2:=kF vN [108,116] rfl;have k3:=kF vN [76,84] rfl;have k4:=kF vN [103,116] rfl;have k5:=kF vN [71,84] rfl;have k6:=kF vN [113,117,111,116] rfl;have k7:=kF vN [81,85,79,84] rfl;have k8:=kF vN [110,98,115,112] rfl;have k9:=kF vN [115,104,121] rfl;have J3:=kF vN [110,111,116] rfl;have J4:=kF vN [114,101,103] rfl;have J5:=kF vN [99,111,112,121] rfl;have J6:=kF vN [112,97,114,97] rfl;have J7:=kT vN [115,101,99,116] rfl;have J8:=kF vN [121,101,110] rfl;have J9:=kF vN [100,101,103] rfl;have Ka:=kF vN [116,105,109,101,115] rfl;have zM:=kF vN [101,97,99,117,116,101] rfl;have Kb:=kF vN [111,117,109,108] rfl;have Kc:=kF vN [115,122,108,105,103] rfl;have ht:aX iR s.data.toList=some [194,167]:=by rw[vN];decide+kernel
 have HT:=hid ht;clear ht vN;clear h0 h1 h2 h3 h4 h5 h6 h7 h8 h9 zN Ap xH AD;have tg:=Tg.k 14;rotate_left;by_cases rJ:s.data.toList=[121,101,110];have k0:=kF rJ [97,109,112] rfl;have k1:=kF rJ [65,77,80] rfl;have k2:=kF rJ [108,116] rfl;have k3:=kF rJ [76,84] rfl;have k4:=kF rJ [103,116] rfl;have k5:=kF rJ [71,84] rfl;have k6:=kF rJ [113,117,111,116] rfl;have k7:=kF rJ [81,85,79,84] rfl;have k8:=kF rJ [110,98,115,112] rfl;have k9:=kF rJ [115,104,121] rfl;have J3:=kF rJ [110,111,116] rfl;have J4:=kF rJ [114,101,103] rfl;have J5:=kF rJ [99,111,112,121] rfl;have J6:=kF rJ [112,97,114,97] rfl;have J7:=kF rJ [115,101,99,116] rfl;have J8:=kT rJ [121,101,110] rfl;have J9:=kF rJ [100,101,103] rfl;have Ka:=kF rJ [116,105,109,101,115] rfl;have zM:=kF rJ [101,97,99,117,116,101] rfl;have Kb:=kF rJ [111,117,109,108] rfl;have Kc:=kF rJ [115,122,108,105,103] rfl;have ht:aX iR s.data.toList=some [194,165]:=by rw[rJ];decide+kernel
 have HT:=hid ht;clear ht rJ;clear h0 h1 h2 h3 h4 h5 h6 h7 h8 h9 zN Ap xH AD vN;have tg:=Tg.k 15;rotate_left;by_cases yU:s.data.toList=[100,101,103];have k0:=kF yU [97,109,112] rfl;have k1:=kF yU [65,77,80] rfl;have k2:=kF yU [108,116] rfl;have k3:=kF yU [76,84] rfl;have k4:=kF yU [103,116] rfl;have k5:=kF yU [71,84] rfl;have k6:=kF yU [113,117,111,116] rfl;have k7:=kF yU [81,85,79,84] rfl;have k8:=kF yU [110,98,115,112] rfl;have k9:=kF yU [115,104,121] rfl;have J3:=kF yU [110,111,116] rfl;have J4:=kF yU [114,101,103] rfl;have J5:=kF yU [99,111,112,121] rfl;have J6:=kF yU [112,97,114,97] rfl;have J7:=kF yU [115,101,99,116] rfl;have J8:=kF yU [121,101,110] rfl;have J9:=kT yU [100,101,103] rfl;have Ka:=kF yU [116,105,109,101,115] rfl;have zM:=kF yU [101,97,99,117,116,101] rfl;have Kb:=kF yU [111,117,109,108] rfl;have Kc:=kF yU [115,122,108,105,103] rfl;have ht:aX iR s.data.toList=some [194,176]:=by rw[yU];decide+kernel
 have HT:=hid ht;clear ht yU;clear h0 h1 h2 h3 h4 h5 h6 h7 h8 h9 zN Ap xH AD vN rJ;have tg:=Tg.k 16;rotate_left;by_cases Dw:s.data.toList=[116,105,109,101,115];have k0:=kF Dw [97,109,112] rfl;have k1:=kF Dw [65,77,80] rfl;have k2:=kF Dw [108,116] rfl;have k3:=kF Dw [76,84] rfl;have k4:=kF Dw [103,116] rfl;have k5:=kF Dw [71,84] rfl;have k6:=kF Dw [113,117,111,116] rfl;have k7:=kF Dw [81,85,79,84] rfl;have k8:=kF Dw [110,98,115,112] rfl;have k9:=kF Dw [115,104,121] rfl;have J3:=kF Dw [110,111,116] rfl;have J4:=kF Dw [114,101,103] rfl;have J5:=kF Dw [99,111,112,121] rfl;have J6:=kF Dw [112,97,114,97] rfl;have J7:=kF Dw [115,101,99,116] rfl;have J8:=kF Dw [121,101,110] rfl;have J9:=kF Dw [100,101,103] rfl;have Ka:=kT Dw [116,105,109,101,115] rfl;have zM:=kF Dw [101,97,99,117,116,101] rfl;have Kb:=kF Dw [111,117,109,108] rfl;have Kc:=kF Dw [115,122,108,105,103] rfl;have ht:aX iR s.data.toList=some [195,151]:=by rw[Dw];decide+kernel
 have HT:=hid ht;clear ht Dw;clear h0 h1 h2 h3 h4 h5 h6 h7 h8 h9 zN Ap xH AD vN rJ yU;have tg:=Tg.k 17;rotate_left;by_cases Ee:s.data.toList=[101,97,99,117,116,101];have k0:=kF Ee [97,109,112] rfl;have k1:=kF Ee [65,77,80] rfl;have k2:=kF Ee [108,116] rfl;have k3:=kF Ee [76,84] rfl;have k4:=kF Ee [103,116] rfl;have k5:=kF Ee [71,84] rfl;have k6:=kF Ee [113,117,111,116] rfl;have k7:=kF Ee [81,85,79,84] rfl;have k8:=kF Ee [110,98,115,112] rfl;have k9:=kF Ee [115,104,121] rfl;have J3:=kF Ee [110,111,116] rfl;have J4:=kF Ee [114,101,103] rfl;have J5:=kF Ee [99,111,112,121] rfl;have J6:=kF Ee [112,97,114,97] rfl;have J7:=kF Ee [115,101,99,116] rfl;have J8:=kF Ee [121,101,110] rfl;have J9:=kF Ee [100,101,103] rfl;have Ka:=kF Ee [116,105,109,101,115] rfl;have zM:=kT Ee [101,97,99,117,116,101] rfl;have Kb:=kF Ee [111,117,109,108] rfl;have Kc:=kF Ee [115,122,108,105,103] rfl;have ht:aX iR s.data.toList=some [195,169]:=by rw[Ee];decide+kernel
 have HT:=hid ht;clear ht Ee;clear h0 h1 h2 h3 h4 h5 h6 h7 h8 h9 zN Ap xH AD vN rJ yU Dw;have tg:=Tg.k 18;rotate_left;by_cases ED:s.data.toList=[111,117,109,108];have k0:=kF ED [97,109,112] rfl;have k1:=kF ED [65,77,80] rfl;have k2:=kF ED [108,116] rfl;have k3:=kF ED [76,84] rfl;have k4:=kF ED [103,116] rfl;have k5:=kF ED [71,84] rfl;have k6:=kF ED [113,117,111,116] rfl;have k7:=kF ED [81,85,79,84] rfl;have k8:=kF ED [110,98,115,112] rfl;have k9:=kF ED [115,104,121] rfl;have J3:=kF ED [110,111,116] rfl;have J4:=kF ED [114,101,103] rfl;have J5:=kF ED [99,111,112,121] rfl;have J6:=kF ED [112,97,114,97] rfl;have J7:=kF ED [115,101,99,116] rfl;have J8:=kF ED [121,101,110] rfl;have J9:=kF ED [100,101,103] rfl;have Ka:=kF ED [116,105,109,101,115] rfl;have zM:=kF ED [101,97,99,117,116,101] rfl;have Kb:=kT ED [111,117,109,108] rfl;have Kc:=kF ED [115,122,108,105,103] rfl;have ht:aX iR s.data.toList=some [195,182]:=by rw[ED];decide+kernel
 have HT:=hid ht;clear ht ED;clear h0 h1 h2 h3 h4 h5 h6 h7 h8 h9 zN Ap xH AD vN rJ yU Dw Ee;have tg:=Tg.k 19;rotate_left;by_cases Dx:s.data.toList=[115,122,108,105,103];have k0:=kF Dx [97,109,112] rfl;have k1:=kF Dx [65,77,80] rfl;have k2:=kF Dx [108,116] rfl;have k3:=kF Dx [76,84] rfl;have k4:=kF Dx [103,116] rfl;have k5:=kF Dx [71,84] rfl;have k6:=kF Dx [113,117,111,116] rfl;have k7:=kF Dx [81,85,79,84] rfl;have k8:=kF Dx [110,98,115,112] rfl;have k9:=kF Dx [115,104,121] rfl;have J3:=kF Dx [110,111,116] rfl;have J4:=kF Dx [114,101,103] rfl;have J5:=kF Dx [99,111,112,121] rfl;have J6:=kF Dx [112,97,114,97] rfl;have J7:=kF Dx [115,101,99,116] rfl;have J8:=kF Dx [121,101,110] rfl;have J9:=kF Dx [100,101,103] rfl;have Ka:=kF Dx [116,105,109,101,115] rfl;have zM:=kF Dx [101,97,99,117,116,101] rfl;have Kb:=kF Dx [111,117,109,108] rfl;have Kc:=kT Dx [115,122,108,105,103] rfl;have ht:aX iR s.data.toList=some [195,159]:=by rw[Dx];decide+kernel
 have HT:=hid ht;clear ht Dx;clear h0 h1 h2 h3 h4 h5 h6 h7 h8 h9 zN Ap xH AD vN rJ yU Dw Ee ED;have tg:=Tg.k 20;rotate_left;have k0:(s.toList==[97,109,112])=false:=gT h0;have k1:(s.toList==[65,77,80])=false:=gT h1;have k2:(s.toList==[108,116])=false:=gT h2;have k3:(s.toList==[76,84])=false:=gT h3;have k4:(s.toList==[103,116])=false:=gT h4;have k5:(s.toList==[71,84])=false:=gT h5;have k6:(s.toList==[113,117,111,116])=false:=gT h6;have k7:(s.toList==[81,85,79,84])=false:=gT h7;have k8:(s.toList==[110,98,115,112])=false:=gT h8;have k9:(s.toList==[115,104,121])=false:=gT h9;have J3:(s.toList==[110,111,116])=false:=gT zN;have J4:(s.toList==[114,101,103])=false:=gT Ap;have J5:(s.toList==[99,111,112,121])=false:=gT xH;have J6:(s.toList==[112,97,114,97])=false:=gT AD;have J7:(s.toList==[115,101,99,116])=false:=gT vN;have J8:(s.toList==[121,101,110])=false:=gT rJ;have J9:(s.toList==[100,101,103])=false:=gT yU;have Ka:(s.toList==[116,105,109,101,115])=false:=gT Dw;have zM:(s.toList==[101,97,99,117,116,101])=false:=gT Ee;have Kb:(s.toList==[111,117,109,108])=false:=gT ED;have Kc:(s.toList==[115,122,108,105,103])=false:=gT Dx;have ht:aX iR s.data.toList=none:=by unfold aX iR;simp[Ne.symm h0,Ne.symm h1,Ne.symm h2,Ne.symm h3,Ne.symm h4,Ne.symm h5,Ne.symm h6,Ne.symm h7,Ne.symm h8,Ne.symm h9,Ne.symm zN,Ne.symm Ap,Ne.symm xH,Ne.symm AD,Ne.symm vN,Ne.symm rJ,Ne.symm yU,Ne.symm Dw,Ne.symm Ee,Ne.symm ED,Ne.symm Dx]
 have HT:=hid ht;clear ht h0 h1 h2 h3 h4 h5 h6 h7 h8 h9 zN Ap xH AD vN rJ yU Dw Ee ED Dx;have tg:=Tg.k 21;all_goals
  go_enter Tryz.func166,Tryz.ntmps166;go_wp2;go_ret2;first
  |have:Tg 21:=tg;exact⟨K4 HT.out,rfl⟩
  |exact⟨EC HT.out,rfl⟩
def pF (n:Nat):Value:= .int .i64 (n:Int)
def tX (w:World) (v:Value) (l:List Nat):Prop:=
 (v= .slice none 0 0∧l=[])∨
 ∃g off c,v= .slice (some ⟨g,off,none⟩) l.length c∧l.length≤c∧∀j (h:j < l.length),w.cell? ⟨g,off+j,none⟩=some (.int .i64 (l[j]:Int))
def pB (w:World) (base:Nat) (v:Value) (l:List Nat):Prop:=w.ownsRow base 3 1 v l.length (l.map pF)
theorem Yn:(Tryz.prog.info? 3).map (fun i=>(i.zero,i.size,i.bytes))=some (some (.int .i64 0),1,8):=by kernel_rfl
theorem tX.len {w:World} {v:Value} {l:List Nat} (h:tX w v l):∃a c,v= .slice a l.length c∧l.length≤c:=by
 rcases h with⟨rfl,rfl⟩|⟨g,off,c,rfl,hc,_⟩;·exact⟨none,0,rfl,Nat.le_refl _⟩
 ·exact⟨_,c,rfl,hc⟩
theorem tX.below {w w':World} {v:Value} {l:List Nat} (h:tX w v l) (hb:Below w.heap.size w w'):tX w' v l:=by
 rcases h with h|⟨g,off,c,hv,hc,aW⟩;·exact .inl h
 ·refine .inr ⟨g,off,c,hv,hc,fun j hj=>?_⟩;have h1:=aW j hj;have hg:g < w.heap.size:=by
   rcases Nat.lt_or_ge g w.heap.size with bC|Ao;·exact bC
   ·simp[World.cell?,Array.getElem?_eq_none Ao] at h1
  exact(hb.cell (p:=⟨g,off+j,none⟩) hg).trans h1
theorem pB.nil (w:World) (base:Nat):pB w base (.slice none 0 0) []:=World.ownsRow_nil _ _ _ _
theorem pB.read {w:World} {base:Nat} {v:Value} {l:List Nat} (h:pB w base v l):tX w v l:=by
 have h':=h;obtain⟨h1,h2⟩:=h;rcases h2 with⟨rfl,h3⟩|⟨g,cap,cur,rfl,hg,hh,hc,hm,hs,ht⟩;·exact .inl ⟨rfl,List.length_eq_zero_iff.1 h3⟩
 ·refine .inr ⟨g,0,cap,rfl,hc,fun j hj=>?_⟩;have:=World.ownsRow.cells h' (g:=g) rfl j (.int .i64 (l[j]:Int)) (by rw[List.getElem?_map,List.getElem?_eq_getElem hj];rfl);rw[CH] at this;rw[Nat.zero_add];exact this
theorem pB.below {w w':World} {base:Nat} {v:Value} {l:List Nat} (h:pB w base v l) (hb:Below w.heap.size w w'):pB w' base v l:=by
 obtain⟨h1,h2⟩:=h;refine⟨h1,?_⟩;rcases h2 with h2|⟨g,cap,cur,hv,hg,hh,r⟩;·exact .inl h2
 ·exact .inr ⟨g,cap,cur,hv,hg,by rw[hb.block g (Array.getElem?_eq_some_iff.1 hh).1];exact hh,r⟩
theorem pB.mono {w:World} {base base':Nat} {v:Value} {l:List Nat} (h:pB w base v l) (hb:base'≤base):pB w base' v l:=by
 obtain⟨h1,h2⟩:=h;refine⟨h1,?_⟩;rcases h2 with h2|⟨g,cap,cur,hv,hg,r⟩;·exact .inl h2
 ·exact .inr ⟨g,cap,cur,hv,Nat.le_trans hb hg,r⟩
theorem wB {ops:Array Oper} {rest:List Oper} {o:Oper} {a:Act} {Q:Exit→Act→World→Prop} (w:World) (base:Nat) (v:Value) (l:List Nat) (c:Nat) {n:Int} (hn:n=(c:Int))
 (tK:o.guard=none) (s x:Operand) (ho:o.op= .call {callee:= .builtin .append,args:= #[s,x],argTypes:= #[221,221]})
 (hs:a.eval s=v) (bE:pB w base v l) (hx:a.eval x= .slice (some ⟨w.heap.size,0,none⟩) 1 1) (hlen:l.length≤4000000000) (kX:base≤w.heap.size)
 (h:∀v' w',pB w' base v' (l++[c])→Below base w w'→wpList Tryz.prog ops Q rest (a.put o.dst v') w'):wpList Tryz.prog ops Q (o::rest) a (w.alloc (.cells #[.int .i64 n] 3)):=by
 subst hn;obtain⟨i0,hi,vO,rX,qL⟩:=info_parts Yn;refine wpList_append_own _ tK s x 221 ho base 3 i0 (.int .i64 0) 1 8 Tryz.underlying221 hi vO rX qL rfl (by decide) v l.length (l.map pF) hs (World.ownsRow.alloc bE _) ⟨w.heap.size,0,none⟩ 1 1 [pF c] hx rfl
  ?_ ?_ (by unfold maxLen;omega) (by omega) (by simp;omega) fun v' w' h1 h2 _=>?_
 ·intro j u hj
  match j,hj with
  |0,hj=>simp at hj;subst hj;exact World.cell?_alloc_mark w #[pF c] 3 (0,0) 0
 ·intro u hu;simp at hu;subst hu;rfl
 ·refine h v' w' ?_ ?_;·unfold pB;simpa using h1
  ·have eN:Below base w (w.alloc (.cells #[.int .i64 (c:Int)] 3)):=(Below.refl _ _).alloc kX _;exact eN.grown h2 (by simp;omega) (fun k hk=>(World.ownsRow.lt bE k hk).1)
theorem tX.form {w:World} {v:Value} {l:List Nat} (h:tX w v l) (hn:l≠[]):∃g off c,v= .slice (some ⟨g,off,none⟩) l.length c∧l.length≤c∧∀j (h:j < l.length),w.cell? ⟨g,off+j,none⟩=some (.int .i64 (l[j]:Int)):=by
 rcases h with⟨_,h⟩|h;·exact absurd h hn
 ·exact h
def jN:List UInt8→Bool
 |[a,b]=>mY a&&((b.toNat:Int)==58||(b.toNat:Int)==124)
 |_=>false
def jO:List UInt8→Bool
 |[a,b]=>mY a&&((b.toNat:Int)==58||(b.toNat:Int)==124)&&(b.toNat:Int)==58
 |_=>false
theorem Yo {s:ByteArray} (h:s.size=2):∃a b,s=⟨#[a,b]⟩:=by
 obtain⟨⟨l⟩⟩:=s;have h:l.length=2:=h
 match l,h with
 |[a,b],_=>exact⟨a,b,rfl⟩
theorem Rx {s:ByteArray} (h:s.size=2):jN s.data.toList=(mY s[0]&&(((s[1].toNat:Int)==58)||((s[1].toNat:Int)==124))):=by obtain⟨a,b,rfl⟩:=Yo h;rfl
theorem Ob {s:ByteArray} (h:s.size=2):jO s.data.toList=(jN s.data.toList&&((s[1].toNat:Int)==58)):=by obtain⟨a,b,rfl⟩:=Yo h;rfl
theorem K5 {s:ByteArray} (h:s.size≠2):jN s.data.toList=false:=by
 obtain⟨⟨l⟩⟩:=s;have h:l.length≠2:=h
 match l,h with
 |[],_=>rfl
 |[_],_=>rfl
 |[_,_],h=>simp at h
 |_::_::_::_,_=>rfl
theorem Ry {s:ByteArray} (h:s.size≠2):jO s.data.toList=false:=by
 obtain⟨⟨l⟩⟩:=s;have h:l.length≠2:=h
 match l,h with
 |[],_=>rfl
 |[_],_=>rfl
 |[_,_],h=>simp at h
 |_::_::_::_,_=>rfl
theorem Uh {s:ByteArray} (h:s.size≠2):((s.size:Int)==2)=false:=by simp;omega
theorem Oc {s:ByteArray} (h:s.size=2):((s.size:Int)==2)=true:=by simp;omega
theorem sU (s:ByteArray) (w:World):
 Calls Tryz.prog 175 #[.string s] w fun e w'=>e= .returned (.bool (jN s.data.toList))∧w=w':=by
 by_cases h:s.size=2
 ·have hd:=hid (Rx h);have h2:=Oc h;have bC:(s[1]).toNat < 256:=s[1].toNat_lt;rw[hd.out];clear hd;generalize hL:mY s[0]=L;have HL:=hid hL;clear hL;go_enter Tryz.func175,Tryz.ntmps175;go_wp2_with (go_at_call 91;refine(zI _ _).mono ?_;rintro e w2 ⟨rfl,rfl⟩;rw[HL.out]);all_goals go_ret
  all_goals refine⟨aZ ?_,rfl⟩
  all_goals(simp_all)
 ·rw[K5 h];have h2:=Uh h;clear h;go_enter Tryz.func175,Tryz.ntmps175;go_wp2_with fail;all_goals go_ret
  all_goals exact⟨aZ rfl,rfl⟩
theorem zO (s:ByteArray) (w:World):
 Calls Tryz.prog 135 #[.string s] w fun e w'=>e= .returned (.bool (jO s.data.toList))∧w=w':=by
 by_cases h:s.size=2
 ·have hd:=hid (Ob h);have bC:(s[1]).toNat < 256:=s[1].toNat_lt;rw[hd.out];clear hd;generalize hL:jN s.data.toList=L;have HL:=hid hL;clear hL;go_enter Tryz.func135,Tryz.ntmps135;go_wp2_with (go_at_call 175;refine(sU _ _).mono ?_;rintro e w2 ⟨rfl,rfl⟩;rw[HL.out]);all_goals go_ret
  all_goals refine⟨aZ ?_,rfl⟩
  all_goals(simp_all)
 ·rw[Ry h];have HL:=hid (K5 h);clear h;go_enter Tryz.func135,Tryz.ntmps135;go_wp2_with (go_at_call 175;refine(sU _ _).mono ?_;rintro e w2 ⟨rfl,rfl⟩;rw[HL.out]);all_goals go_ret
  all_goals exact⟨aZ rfl,rfl⟩
theorem wC (s:ByteArray) (w:World) (hs:s.size≤4000000000):
 Calls Tryz.prog 19 #[.string s] w fun e w'=>e= .returned (.string ⟨(rI s.data.toList).toArray⟩)∧Below w.heap.size w w':=by
 have G3:=run_bytes_of_string (P:=Tryz.prog) w 9 25 5 s Tryz.underlying9 Tryz.underlying25 Tryz.underlying5;have K6:=Dn s w (grownCap w s.size 0 5) 5;have uE:=Below.made s w (grownCap w s.size 0 5) 5;have hlen:Hid (s.data.toList.length=s.size):=hid (by simp);generalize agH:grownCap w s.size 0 5=cap at*;clear agH;go_enter Tryz.func19,Tryz.ntmps19;go_wp2;clear G3;go_loopw [10] (fun i wr=>∃k:Nat,k≤s.size∧i= .int .i64 k∧wA wr w.heap.size (mL s.data.toList k)∧Below w.heap.size w wr) (fun i _=>s.size - (intOf i).toNat);case atStart=>exact⟨0,Nat.zero_le _,rfl,by rw[Mh];exact K6,uE⟩
 case round=>
  obtain⟨k,hk,rfl,tM,dB⟩:=hrel;clear K6 uE;by_cases bC:k < s.size
  ·have mE:k < s.data.toList.length:=by rw[hlen.out];exact bC
   have hkp:k < (mL s.data.toList k).length:=by rw[AV];exact mE
   obtain⟨hc,hf⟩:=tM k hkp;rw[FD _ _ mE] at hc;obtain⟨x,hx⟩:∃x,x=s.data.toList[k]:=⟨_,rfl⟩;rw[←hx] at hc;have Hx:=hid hx;clear hx;have uX:x.toNat < 256:=x.toNat_lt;by_cases hup:65≤x.toNat∧x.toNat≤90
   ·have hn:=Dm s.data.toList k mE;rw[←Hx.out] at hn;have tH:=tM.set hkp (Mg x);rw[←hn,abU hup] at tH;have HN:=hid tH;clear hn tH;obtain⟨h65,h90⟩:=hup;go_wp2;go_roundw;case rel=>exact⟨k+1,by omega,by go_num,HN.out,dB.setCell (Nat.le_refl _) _⟩
    case measure=>simp[intOf];omega
   ·have hn:=N1 s.data.toList k mE (by rw[←Hx.out];exact hup);rw[←hn] at tM;clear hn;by_cases h65:65≤x.toNat
    ·have h90:90 < x.toNat:=by omega
     go_wp2;go_roundw;case rel=>exact⟨k+1,by omega,by go_num,tM,dB⟩
     case measure=>simp[intOf];omega
    ·go_wp2;go_roundw;case rel=>exact⟨k+1,by omega,by go_num,tM,dB⟩
     case measure=>simp[intOf];omega
  ·obtain rfl:k=s.size:=by omega
   rw[←hlen.out,NZ] at tM;have hcb:=run_convert_bytes_back (P:=Tryz.prog) wr 25 9 5 ⟨w.heap.size,0,none⟩ cap (rI s.data.toList) Tryz.underlying25 Tryz.underlying5 Tryz.underlying9 (fun j hj=>by
    rw[CH];exact(tM j hj).1)
   have Ui:(rI s.data.toList).length=s.size:=by rw[←hlen.out];simp[rI]
   rw[Ui] at hcb;clear Ui;go_wp2;go_ret;exact⟨rfl,dB⟩
def Rz (s:ByteArray):List ByteArray→Bool
 |[x]=>s.toList==[102,105,108,101]&&jO x.data.toList
 |_=>false
def lS (s:ByteArray) (l:List ByteArray):List ByteArray:=if Rz s l=true then l else l.take (l.length - 1)
theorem A9 {s:ByteArray} {l:List ByteArray} (h:2≤l.length):lS s l=l.take (l.length - 1):=by
 match l,h with
 |_::_::_,_=>rfl
theorem RA {n k:Nat} (h:n≠k):((n:Int)==(k:Int))=false:=by simp;omega
theorem RC {s:ByteArray} {l:List ByteArray}:(lS s l).length≤l.length:=by
 unfold lS;split;·exact Nat.le_refl _
 ·simp
set_option maxHeartbeats 4000000000 in
theorem Kd (s:ByteArray) (v:Value) (l:List ByteArray) (w:World) (hv:bT w v l) (hl:l.length≤1000000000):
 Calls Tryz.prog 139 #[.string s,v] w fun e w'=>∃v',e= .returned v'∧fN w' w.heap.size v' (lS s l)∧Below w.heap.size w w':=by
 have hv0:=hv;rcases hv with⟨rfl,rfl⟩|⟨g,off,c,rfl,hc,aW⟩;have tg:=Tg.k 0;rotate_left;have HC:=hid aW;clear aW;by_cases h0:l.length=0;obtain rfl:l=[]:=List.length_eq_zero_iff.1 h0;have Dy:bT w (.slice (some ⟨g,off,none⟩) 0 c) []:=hv0;clear h0;have tg:=Tg.k 1;rotate_left;by_cases h1:l.length=1;obtain⟨x,rfl⟩:=List.length_eq_one_iff.1 h1;have hx:w.cell? ⟨g,off,none⟩=some (.string x):=HC.out 0 (by simp);have Od:1≤c:=by simpa using hc
 have Dy:bT w (.slice (some ⟨g,off,none⟩) 1 c) [x]:=hv0;have Yp:bT w (.slice (some ⟨g,off,none⟩) 0 c) []:=by have:=bT.take hv0 (n:=0) (by simp);simpa using this
 clear h0 h1 hc hl HC hv0;cases hf:(s.toList==[102,105,108,101]);have Gp:lS s [x]=[]:=by unfold lS Rz;rw[hf];rfl
 rw[Gp];clear Gp;have tg:=Tg.k 2;rotate_left;cases hn:jO x.data.toList;have Gp:lS s [x]=[]:=by show(if(s.toList==[102,105,108,101]&&jO x.data.toList)=true then[x] else[x].take 0)=[];rw[hf,hn];rfl
 rw[Gp];have HN:=hid hn;clear Gp hn;have tg:=Tg.k 3;rotate_left;have Gp:lS s [x]=[x]:=by show(if(s.toList==[102,105,108,101]&&jO x.data.toList)=true then[x] else[x].take 0)=[x];rw[hf,hn];rfl
 rw[Gp];have HN:=hid hn;clear Gp hn;have tg:=Tg.k 4;rotate_left;have hm:=A9 (s:=s) (l:=l) (by omega);rw[hm];have hn1:=RA h1;have hz:=bT.take hv0 (n:=l.length - 1) (by omega);have e1:IntKind.i64.wrap ((l.length:Int) - 1)=((l.length - 1:Nat):Int):=by rw[IntWalk.i64_in _ (by omega)];omega
 have bC:(l.take (l.length - 1)).length≤1000000000:=by simp;omega
 clear hm HC hv0;generalize hk:l.length - 1=k at*;have hkc:k≤c:=by omega
 have zP:0 < l.length:=by omega
 have tg:=Tg.k 5;all_goals
  go_enter Tryz.func139,Tryz.ntmps139;go_wp2_with (first|(at_builtin;refine bO rfl _ _ rfl rfl (fN.nil _ w.heap.size) rfl hv0 (by simp) (Nat.le_refl _) ?_;intro v' w1 ho hb)|(at_builtin;refine bO rfl _ _ rfl rfl (fN.nil _ w.heap.size) rfl Dy (by simp) (Nat.le_refl _) ?_;intro v' w1 ho hb)|(at_builtin;refine bO rfl _ _ rfl rfl (fN.nil _ w.heap.size) rfl Yp (by simp) (Nat.le_refl _) ?_;intro v' w1 ho hb)|(at_builtin;refine bO rfl _ _ rfl rfl (fN.nil _ w.heap.size) rfl hz (by simpa using (by omega:(l.take k).length≤4000000000)) (Nat.le_refl _) ?_;intro v' w1 ho hb));first
  |have:Tg 5:=tg;all_goals(go_ret;exact⟨_,rfl,ho,hb⟩)
  |first
   |(first|have:Tg 3:=tg|have:Tg 4:=tg)
    refine(zO _ _).mono ?_;rintro e w2 ⟨rfl,rfl⟩;rw[HN.out];go_wp2_with (first|(at_builtin;refine bO rfl _ _ rfl rfl (fN.nil _ w.heap.size) rfl Yp (by simp) (Nat.le_refl _) ?_;intro v' w1 ho hb)|(at_builtin;refine bO rfl _ _ rfl rfl (fN.nil _ w.heap.size) rfl Dy (by simp) (Nat.le_refl _) ?_;intro v' w1 ho hb))
   |skip
   go_ret;exact⟨_,rfl,ho,hb⟩
end Go.Proofs.YtmgmclkplepapaaGreatDoor
