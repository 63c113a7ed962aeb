/- Part of the proof of TopBoundsUptoCardSaid. Conditions: none beyond the statement. -/
import Derived.Test.YtmgmclkplepapaaGreatDoorPt8
import Derived.Test.YtmgmclkplepapaaGreatDoorPt12
set_option linter.all false
set_option maxRecDepth 100000
set_option maxHeartbeats 64000000
namespace Go.Proofs.YtmgmclkplepapaaGreatDoor
open Go.RowKit
theorem iY (c:Nat) (h:eA c) (w:World):Calls Tryz.prog 46 #[.int .i64 (c:Int)] w fun e w'=>e= .returned (.string (aA (kP c)))∧w=w':=by
 have hE:Utf8.encode (c:Int)=aA (kP c):=El c h;have hb:c≤1114111∧(c < 55296∨57344≤c):=by unfold eA at h;omega
 obtain⟨eN,dE⟩:=hb;have d1:decide ((c:Int) < 0)=false:=decide_eq_false (by omega);have d2:decide (1114111 < (c:Int))=false:=decide_eq_false (by omega);have hw:IntKind.i32.wrap (c:Int)=(c:Int):=IntWalk.i32_in _ (by omega);by_cases d:55296≤(c:Int);·have d3:decide (55296≤(c:Int))=true:=decide_eq_true d;have d4:decide ((c:Int)≤57343)=false:=decide_eq_false (by omega);clear eN dE d h;go_enter Tryz.func46,Tryz.ntmps46;go_wp2;go_ret;exact⟨rfl,rfl⟩
 ·have d3:decide (55296≤(c:Int))=false:=decide_eq_false d;clear eN dE d h;go_enter Tryz.func46,Tryz.ntmps46;go_wp2;go_ret;exact⟨rfl,rfl⟩
theorem dG (c:Nat) (A B:Int) (a b:Nat) (hA:A=(a:Int)) (hB:B=(b:Int)) (w:World):Calls Tryz.prog 236 #[.int .i64 (c:Int),.int .i64 A,.int .i64 B] w fun e w'=>e= .returned (.bool (jH c a b))∧w=w':=by subst hA hB;refine(abV (c:Int) (a:Int) (b:Int) w).mono ?_;rintro e w' ⟨rfl,rfl⟩;refine⟨aZ ?_,rfl⟩;unfold jH;rw[Bool.eq_iff_iff];simp
theorem ajY {a b:List UInt8} (h:a=b):Ending.returned (.string (aA a))= .returned (.string (aA b)):=by rw[h]
theorem RI (c:Nat) (hc:eA c) (w:World):Calls Tryz.prog 226 #[.int .i64 (c:Int)] w fun e w'=>e= .returned (.string (aA (dD c)))∧w=w':=by
 have oN:c≤1114111:=by unfold eA at hc;omega
 have H0:=hid (fun w=>dG c 65 90 65 90 rfl rfl w);cases h0:jH c 65 90;rw[h0] at H0;have H1:=hid (fun w=>dG c 192 214 192 214 rfl rfl w);cases h1:jH c 192 214;rw[h1] at H1;have H2:=hid (fun w=>dG c 216 222 216 222 rfl rfl w);cases h2:jH c 216 222;rw[h2] at H2;have H3:=hid (fun w=>dG c 913 929 913 929 rfl rfl w);cases h3:jH c 913 929;rw[h3] at H3;have H4:=hid (fun w=>dG c 931 937 931 937 rfl rfl w);cases h4:jH c 931 937;rw[h4] at H4;have H5:=hid (fun w=>dG c 1040 1071 1040 1071 rfl rfl w);cases h5:jH c 1040 1071;rw[h5] at H5;have H6:=hid (fun w=>dG c 256 302 256 302 rfl rfl w);cases h6:jH c 256 302;rw[h6] at H6;by_cases h7:c=304;subst h7;have HO:Hid (dD 304=[105,204,135]):=hid (by decide+kernel);clear hc h0 h1 h2 h3 h4 h5 h6;have tg:=Tg.k 8;rotate_left;have e7:((c:Int)==304)=false:=by simp;omega
 have b7:(c==304)=false:=by simp;omega
 clear h7;have H8:=hid (fun w=>dG c 1024 1039 1024 1039 rfl rfl w);cases h8:jH c 1024 1039;rw[h8] at H8;by_cases h9:c=8228;subst h9;have HO:Hid (dD 8228=[46]):=hid (by decide+kernel);clear hc h0 h1 h2 h3 h4 h5 h6 b7 h8;have tg:=Tg.k 10;rotate_left;have e9:((c:Int)==8228)=false:=by simp;omega
 have b9:(c==8228)=false:=by simp;omega
 clear h9;by_cases zM:c=12290;subst zM;have HO:Hid (dD 12290=[46]):=hid (by decide+kernel);clear hc h0 h1 h2 h3 h4 h5 h6 b7 h8 b9;have tg:=Tg.k 11;rotate_left;have e10:((c:Int)==12290)=false:=by simp;omega
 have XG:(c==12290)=false:=by simp;omega
 clear zM;by_cases Ao:c=65377;subst Ao;have HO:Hid (dD 65377=[46]):=hid (by decide+kernel);clear hc h0 h1 h2 h3 h4 h5 h6 b7 h8 b9 XG;have tg:=Tg.k 12;rotate_left;have e11:((c:Int)==65377)=false:=by simp;omega
 have b11:(c==65377)=false:=by simp;omega
 clear Ao;by_cases xG:c=8448;subst xG;have HO:Hid (dD 8448=[97,47,99]):=hid (by decide+kernel);clear hc h0 h1 h2 h3 h4 h5 h6 b7 h8 b9 XG b11;have tg:=Tg.k 13;rotate_left;have e12:((c:Int)==8448)=false:=by simp;omega
 have b12:(c==8448)=false:=by simp;omega
 clear xG;by_cases AB:c=8453;subst AB;have HO:Hid (dD 8453=[99,47,111]):=hid (by decide+kernel);clear hc h0 h1 h2 h3 h4 h5 h6 b7 h8 b9 XG b11 b12;have tg:=Tg.k 14;rotate_left;have e13:((c:Int)==8453)=false:=by simp;omega
 have b13:(c==8453)=false:=by simp;omega
 clear AB;have H14:=hid (fun w=>dG c 9312 9320 9312 9320 rfl rfl w);cases vM:jH c 9312 9320;rw[vM] at H14;have H15:=hid (fun w=>dG c 65281 65374 65281 65374 rfl rfl w);cases rI:jH c 65281 65374;rw[rI] at H15;have H16:=hid (fun w=>dG c 120782 120831 120782 120831 rfl rfl w);cases yT:jH c 120782 120831;rw[yT] at H16;have HO:Hid (dD c=[]):=hid (by unfold dD;simp[h0,h1,h2,h3,h4,h5,h6,b7,h8,b9,XG,b11,b12,b13,vM,rI,yT]);clear hc h0 h1 h2 h3 h4 h5 h6 b7 h8 b9 XG b11 b12 b13 vM rI yT;have tg:=Tg.k 19;rotate_left;rw[yT] at H16;have vA:=iA.1 yT;obtain⟨vA,Yv⟩:=vA;have HS:=hid (fun w=>iY (48+(c - 120782) % 10) (by unfold eA;omega) w);have gT:((48+(c - 120782) % 10:Nat):Int)=48+((c:Int) - 120782) % 10:=by omega
 rw[gT] at HS;have HO:Hid (dD c=kP (48+(c - 120782) % 10)):=hid (by unfold dD;simp[h0,h1,h2,h3,h4,h5,h6,b7,h8,b9,XG,b11,b12,b13,vM,rI,yT]);clear gT hc;clear h0 h1 h2 h3 h4 h5 h6 h8 vM rI yT;have tg:=Tg.k 18;rotate_left;rw[rI] at H15;obtain⟨vA,Yv⟩:=iA.1 rI;obtain⟨d,hd⟩:∃d,c=d+65248:=⟨c - 65248,by omega⟩;have HO:Hid (dD c=kP (Hk c)):=hid (by unfold dD;simp[h0,h1,h2,h3,h4,h5,h6,b7,h8,b9,XG,b11,b12,b13,vM,rI]);have hdI:(c:Int) - 65248=(d:Int):=by omega
 have HD:=hid (fun w=>dG d 65 90 65 90 rfl rfl w);have CK:d≤126:=by omega
 cases GX:jH d 65 90;rw[GX] at HD;have hwd:Hk c=d:=by unfold Hk;rw[show c - 0xfee0=d by omega,GX];rfl
 have HS:=hid (fun w=>iY d (by unfold eA;omega) w);rw[hwd] at HO;clear hwd GX hd h0 h1 h2 h3 h4 h5 h6 b7 h8 b9 XG b11 b12 b13 vM rI hc;have tg:=Tg.k 17;rotate_left;rw[GX] at HD;have hwd:Hk c=d+32:=by unfold Hk;rw[show c - 0xfee0=d by omega,GX];rfl
 have HS:=hid (fun w=>iY (d+32) (by unfold eA;omega) w);rw[hwd] at HO;have gT:((d+32:Nat):Int)=(d:Int)+32:=by omega
 rw[gT] at HS;clear gT hwd GX hd h0 h1 h2 h3 h4 h5 h6 b7 h8 b9 XG b11 b12 b13 vM rI hc;have tg:=Tg.k 16;rotate_left;rw[vM] at H14;have vA:=iA.1 vM;obtain⟨vA,Yv⟩:=vA;have HS:=hid (fun w=>iY (c - 9312+49) (by have:=iA.1 vM;unfold eA;omega) w);have gT:((c - 9312+49:Nat):Int)=(c:Int) - 9312+49:=by omega
 rw[gT] at HS;have HO:Hid (dD c=kP (c - 9312+49)):=hid (by unfold dD;simp[h0,h1,h2,h3,h4,h5,h6,b7,h8,b9,XG,b11,b12,b13,vM]);clear gT hc;clear h0 h1 h2 h3 h4 h5 h6 h8 vM;have tg:=Tg.k 15;rotate_left;rw[h8] at H8;have vA:=iA.1 h8;obtain⟨vA,Yv⟩:=vA;have HS:=hid (fun w=>iY (c+80) (by have:=iA.1 h8;unfold eA;omega) w);have gT:((c+80:Nat):Int)=(c:Int)+80:=by omega
 rw[gT] at HS;have HO:Hid (dD c=kP (c+80)):=hid (by unfold dD;simp[h0,h1,h2,h3,h4,h5,h6,b7,h8]);clear gT hc;clear h0 h1 h2 h3 h4 h5 h6 h8;have tg:=Tg.k 9;rotate_left;rw[h6] at H6;by_cases hm:c % 2=0;have hmI:((c:Int) % 2==0)=true:=by simp;omega
 have vA:=iA.1 h6;obtain⟨vA,Yv⟩:=vA;have HS:=hid (fun w=>iY (c+1) (by have:=iA.1 h6;unfold eA;omega) w);have gT:((c+1:Nat):Int)=(c:Int)+1:=by omega
 rw[gT] at HS;have HO:Hid (dD c=kP (c+1)):=hid (by unfold dD;simp[h0,h1,h2,h3,h4,h5,h6,hm]);clear gT hc;clear h0 h1 h2 h3 h4 h5 h6 hm;have tg:=Tg.k 6;rotate_left;have hmI:((c:Int) % 2==0)=false:=by simp;omega
 obtain⟨vA,Yv⟩:=iA.1 h6;have g0:((c:Int)==304)=false:=by simp;omega
 have n0:(c==304)=false:=by simp;omega
 have G1:=hid (fun w=>dG c 1024 1039 1024 1039 rfl rfl w);have g1:jH c 1024 1039=false:=by unfold jH;simp;omega
 rw[g1] at G1;have g2:((c:Int)==8228)=false:=by simp;omega
 have n2:(c==8228)=false:=by simp;omega
 have g3:((c:Int)==12290)=false:=by simp;omega
 have n3:(c==12290)=false:=by simp;omega
 have g4:((c:Int)==65377)=false:=by simp;omega
 have n4:(c==65377)=false:=by simp;omega
 have g5:((c:Int)==8448)=false:=by simp;omega
 have n5:(c==8448)=false:=by simp;omega
 have g6:((c:Int)==8453)=false:=by simp;omega
 have n6:(c==8453)=false:=by simp;omega
 have G7:=hid (fun w=>dG c 9312 9320 9312 9320 rfl rfl w);have g7:jH c 9312 9320=false:=by unfold jH;simp;omega
 rw[g7] at G7;have G8:=hid (fun w=>dG c 65281 65374 65281 65374 rfl rfl w);have g8:jH c 65281 65374=false:=by unfold jH;simp;omega
 rw[g8] at G8;have G9:=hid (fun w=>dG c 120782 120831 120782 120831 rfl rfl w);have g9:jH c 120782 120831=false:=by unfold jH;simp;omega
 rw[g9] at G9;have HO:Hid (dD c=[]):=hid (by unfold dD;simp only[h0,h1,h2,h3,h4,h5,h6,g1,g7,g8,g9,n0,n2,n3,n4,n5,n6,hm];simp[hm]);clear h0 h1 h2 h3 h4 h5 h6 hm g1 g7 g8 g9 n0 n2 n3 n4 n5 n6 hc;have tg:=Tg.k 7;rotate_left;rw[h5] at H5;have vA:=iA.1 h5;obtain⟨vA,Yv⟩:=vA;have HS:=hid (fun w=>iY (c+32) (by have:=iA.1 h5;unfold eA;omega) w);have gT:((c+32:Nat):Int)=(c:Int)+32:=by omega
 rw[gT] at HS;have HO:Hid (dD c=kP (c+32)):=hid (by unfold dD;simp[h0,h1,h2,h3,h4,h5]);clear gT hc;clear h0 h1 h2 h3 h4 h5;have tg:=Tg.k 5;rotate_left;rw[h4] at H4;have vA:=iA.1 h4;obtain⟨vA,Yv⟩:=vA;have HS:=hid (fun w=>iY (c+32) (by have:=iA.1 h4;unfold eA;omega) w);have gT:((c+32:Nat):Int)=(c:Int)+32:=by omega
 rw[gT] at HS;have HO:Hid (dD c=kP (c+32)):=hid (by unfold dD;simp[h0,h1,h2,h3,h4]);clear gT hc;clear h0 h1 h2 h3 h4;have tg:=Tg.k 4;rotate_left;rw[h3] at H3;have vA:=iA.1 h3;obtain⟨vA,Yv⟩:=vA;have HS:=hid (fun w=>iY (c+32) (by have:=iA.1 h3;unfold eA;omega) w);have gT:((c+32:Nat):Int)=(c:Int)+32:=by omega
 rw[gT] at HS;have HO:Hid (dD c=kP (c+32)):=hid (by unfold dD;simp[h0,h1,h2,h3]);clear gT hc;clear h0 h1 h2 h3;have tg:=Tg.k 3;rotate_left;rw[h2] at H2;have vA:=iA.1 h2;obtain⟨vA,Yv⟩:=vA;have HS:=hid (fun w=>iY (c+32) (by have:=iA.1 h2;unfold eA;omega) w);have gT:((c+32:Nat):Int)=(c:Int)+32:=by omega
 rw[gT] at HS;have HO:Hid (dD c=kP (c+32)):=hid (by unfold dD;simp[h0,h1,h2]);clear gT hc;clear h0 h1 h2;have tg:=Tg.k 2;rotate_left;rw[h1] at H1;have vA:=iA.1 h1;obtain⟨vA,Yv⟩:=vA;have HS:=hid (fun w=>iY (c+32) (by have:=iA.1 h1;unfold eA;omega) w);have gT:((c+32:Nat):Int)=(c:Int)+32:=by omega
 rw[gT] at HS;have HO:Hid (dD c=kP (c+32)):=hid (by unfold dD;simp[h0,h1]);clear gT hc;clear h0 h1;have tg:=Tg.k 1;rotate_left;rw[h0] at H0;have vA:=iA.1 h0;obtain⟨vA,Yv⟩:=vA;have HS:=hid (fun w=>iY (c+32) (by have:=iA.1 h0;unfold eA;omega) w);have gT:((c+32:Nat):Int)=(c:Int)+32:=by omega
 rw[gT] at HS;have HO:Hid (dD c=kP (c+32)):=hid (by unfold dD;simp[h0]);clear gT hc;clear h0;have tg:=Tg.k 0;all_goals
  go_enter Tryz.func226,Tryz.ntmps226;go_wp2_with fail;refine(H0.out _).mono ?_;rintro e w' ⟨rfl,rfl⟩;go_wp2_with fail;first
  |have:Tg 0:=tg;refine(HS.out _).mono ?_
  |refine(H1.out _).mono ?_;rintro e w' ⟨rfl,rfl⟩;go_wp2_with fail;first
   |have:Tg 1:=tg;refine(HS.out _).mono ?_
   |refine(H2.out _).mono ?_;rintro e w' ⟨rfl,rfl⟩;go_wp2_with fail;first
    |have:Tg 2:=tg;refine(HS.out _).mono ?_
    |refine(H3.out _).mono ?_;rintro e w' ⟨rfl,rfl⟩;go_wp2_with fail;first
     |have:Tg 3:=tg;refine(HS.out _).mono ?_
     |refine(H4.out _).mono ?_;rintro e w' ⟨rfl,rfl⟩;go_wp2_with fail;first
      |have:Tg 4:=tg;refine(HS.out _).mono ?_
      |refine(H5.out _).mono ?_;rintro e w' ⟨rfl,rfl⟩;go_wp2_with fail;first
       |have:Tg 5:=tg;refine(HS.out _).mono ?_
       |refine(H6.out _).mono ?_;first
        |have:Tg 8:=tg
        |rintro e w' ⟨rfl,rfl⟩;go_wp2_with fail;first
         |have:Tg 7:=tg;refine(G1.out _).mono ?_;rintro e w' ⟨rfl,rfl⟩;go_wp2_with fail;refine(G7.out _).mono ?_;rintro e w' ⟨rfl,rfl⟩;go_wp2_with fail;refine(G8.out _).mono ?_;rintro e w' ⟨rfl,rfl⟩;go_wp2_with fail;refine(G9.out _).mono ?_
         |have:Tg 6:=tg;refine(HS.out _).mono ?_
         |refine(H8.out _).mono ?_;first
          |(first|have:Tg 10:=tg|have:Tg 11:=tg|have:Tg 12:=tg|have:Tg 13:=tg|have:Tg 14:=tg)
          |rintro e w' ⟨rfl,rfl⟩;go_wp2_with fail;first
           |have:Tg 9:=tg;refine(HS.out _).mono ?_
           |refine(H14.out _).mono ?_;rintro e w' ⟨rfl,rfl⟩;go_wp2_with fail;first
            |have:Tg 15:=tg;refine(HS.out _).mono ?_
            |refine(H15.out _).mono ?_;rintro e w' ⟨rfl,rfl⟩;go_wp2_with fail;first
             |have:Tg 19:=tg;refine(H16.out _).mono ?_
             |first
              |have:Tg 18:=tg;refine(H16.out _).mono ?_
              |refine(HD.out _).mono ?_
              rintro e w' ⟨rfl,rfl⟩;go_wp2_with fail;refine(HS.out _).mono ?_
  rintro e w' ⟨rfl,rfl⟩;go_wp2_with fail;go_ret;exact⟨ajY HO.out.symm,rfl⟩
def rL (o:Option Nat):Int:=match o with
 |some d=>(d:Int)
 |none=> -1
theorem Vz (c:UInt8):rL (AO c)=if 97≤(c.toNat:Int)∧(c.toNat:Int)≤122 then(c.toNat:Int) - 97 else if 65≤(c.toNat:Int)∧(c.toNat:Int)≤90 then(c.toNat:Int) - 65 else if 48≤(c.toNat:Int)∧(c.toNat:Int)≤57 then(c.toNat:Int) - 48+26 else -1:=by
 have e1:(97≤(c.toNat:Int)∧(c.toNat:Int)≤122)=(97≤c.toNat∧c.toNat≤122):=propext (by omega);have e2:(65≤(c.toNat:Int)∧(c.toNat:Int)≤90)=(65≤c.toNat∧c.toNat≤90):=propext (by omega);have e3:(48≤(c.toNat:Int)∧(c.toNat:Int)≤57)=(48≤c.toNat∧c.toNat≤57):=propext (by omega);simp only[e1,e2,e3];unfold AO;clear e1 e2 e3;by_cases h1:97≤c.toNat∧c.toNat≤122;·simp only[if_pos h1,rL];omega
 by_cases h2:65≤c.toNat∧c.toNat≤90;·simp only[if_neg h1,if_pos h2,rL];omega
 by_cases h3:48≤c.toNat∧c.toNat≤57;·simp only[if_neg h1,if_neg h2,if_pos h3,rL];omega
 simp only[if_neg h1,if_neg h2,if_neg h3,rL]
theorem RJ (c:UInt8) (w:World):Calls Tryz.prog 248 #[.int .u8 (c.toNat:Int)] w fun e w'=>e= .returned (.int .i64 (rL (AO c)))∧w=w':=by
 have bC:c.toNat < 256:=c.toNat_lt;have hg:=hid (Vz c);go_enter Tryz.func248,Tryz.ntmps248;go_wp2;all_goals go_ret
 all_goals refine⟨nT ?_,rfl⟩
 all_goals(go_light;rw[hg.out];(repeat' split)<;>omega)
theorem Yw (d:Nat) (h:d < 36):((pZ d).toNat:Int)=if(d:Int) < 26 then 97+(d:Int) else 48+d - 26:=by
 have:∀i:Fin 36,((pZ i.val).toNat:Int)=if(i.val:Int) < 26 then 97+(i.val:Int) else 48+i.val - 26:=by decide+kernel
 exact this ⟨d,h⟩
theorem Is (d:Nat) (h:d < 36) (w:World):Calls Tryz.prog 252 #[.int .i64 (d:Int)] w fun e w'=>e= .returned (.int .u8 ((pZ d).toNat:Int))∧w=w':=by
 have hg:=hid (Yw d h);go_enter Tryz.func252,Tryz.ntmps252;go_wp2;all_goals go_ret
 all_goals refine⟨nT ?_,rfl⟩
 all_goals(go_light;rw[hg.out];(repeat' split)<;>omega)
theorem It (j bJ:Nat) (h1:j≤1000000000) (h2:bJ≤1000000000) (w:World):Calls Tryz.prog 249 #[.int .i64 (j:Int),.int .i64 (bJ:Int)] w fun e w'=>e= .returned (.int .i64 ((dV j bJ:Nat):Int))∧w=w':=by
 have hg:Hid (((dV j bJ:Nat):Int)=min (max (36*((j:Int)+1) - bJ) 1) 26):=hid (by unfold dV;omega);go_enter Tryz.func249,Tryz.ntmps249;go_wp2;all_goals go_ret
 all_goals refine⟨nT ?_,rfl⟩
 all_goals(go_light;rw[hg.out])
 all_goals omega
theorem uE {d k:Nat} (h:455 < d):fL d k=fL (d / 35) (k+36):=by rw[fL,dif_pos h]
theorem pS {d k:Nat} (h:¬455 < d):fL d k=(d,k):=by rw[fL,dif_neg h]
theorem Cl (d n:Nat) (first:Bool) (hd:d≤1000000000000) (hn:1≤n) (hn2:n≤1000000) (w:World):
 Calls Tryz.prog 243 #[.int .i64 (d:Int),.int .i64 (n:Int),.bool first] w fun e w'=>e= .returned (.int .i64 ((tV d n first:Nat):Int))∧w=w':=by
 cases first
 have HB:Hid (tV d n false=(fL (d / 2+d / 2 / n) 0).2+36*(fL (d / 2+d / 2 / n) 0).1 / ((fL (d / 2+d / 2 / n) 0).1+38)):=hid rfl;obtain⟨z,hz⟩:∃z,z=d / 2+d / 2 / n:=⟨_,rfl⟩;have Ui:z≤2000000000000:=by have:d / 2 / n≤d / 2:=Nat.div_le_self _ _;omega
 have hW:wrap64 ((d:Int) / 2+(d:Int) / 2 / (n:Int))=(z:Int):=by
  rw[IntWalk.wrap64_in];·rw[hz];rfl
  ·have e:(d:Int) / 2+(d:Int) / 2 / (n:Int)=((d / 2+d / 2 / n:Nat):Int):=by rfl
   rw[e,←hz];omega
 rw[←hz] at HB;clear hz;have tg:=Tg.k 0;rotate_left;have HB:Hid (tV d n true=(fL (d / 700+d / 700 / n) 0).2+36*(fL (d / 700+d / 700 / n) 0).1 / ((fL (d / 700+d / 700 / n) 0).1+38)):=hid rfl;obtain⟨z,hz⟩:∃z,z=d / 700+d / 700 / n:=⟨_,rfl⟩;have Ui:z≤2000000000000:=by have:d / 700 / n≤d / 700:=Nat.div_le_self _ _;omega
 have hW:wrap64 ((d:Int) / 700+(d:Int) / 700 / (n:Int))=(z:Int):=by
  rw[IntWalk.wrap64_in];·rw[hz];rfl
  ·have e:(d:Int) / 700+(d:Int) / 700 / (n:Int)=((d / 700+d / 700 / n:Nat):Int):=by rfl
   rw[e,←hz];omega
 rw[←hz] at HB;clear hz;have tg:=Tg.k 1;all_goals
  go_enter Tryz.func243,Tryz.ntmps243;go_wp2;have HW:=hid hW;clear hW;go_loopw [0,7] (fun a b wr=>∃x k:Nat,a= .int .i64 (x:Int)∧b= .int .i64 (k:Int)∧Hid (fL z 0=fL x k)∧36*x+k≤100000000000000∧w=wr) (fun a _ _=>(intOf a).toNat);case atStart=>exact⟨z,0,by rw[HW.out],rfl,hid rfl,by omega,rfl⟩
  first
  |have:Tg 0:=tg;case round=>
    obtain⟨x,k,rfl,rfl,hp,hx,rfl⟩:=hrel;by_cases bC:455 < x
    ·have JN:=hp.out.trans (uE bC);have HP:=hid JN;clear JN hp;go_wp2;go_roundw;case rel=>exact⟨x / 35,k+36,by go_num,by go_num,HP,by omega,trivial⟩
     case measure=>simp[intOf];omega
    ·have JN:=hp.out.trans (pS bC);rw[JN] at HB;clear JN hp;obtain⟨q,hq⟩:∃q,q=36*x / (x+38):=⟨_,rfl⟩;have hql:q≤36*x:=by rw[hq];exact Nat.div_le_self _ _
     have hQ:(36*(x:Int)) / ((x:Int)+38)=(q:Int):=by rw[hq];rfl
     have HR:Hid (((tV d n false:Nat):Int)=(k:Int)+q):=hid (by rw[HB.out,hq];rfl);clear hq HB;go_wp2;go_ret;exact⟨nT (by rw[HR.out]),rfl⟩
  |case round=>
    obtain⟨x,k,rfl,rfl,hp,hx,rfl⟩:=hrel
    by_cases bC:455 < x
    ·have JN:=hp.out.trans (uE bC)
     have HP:=hid JN
     clear JN hp
     go_wp2
     go_roundw
     case rel=>exact⟨x / 35,k+36,by go_num,by go_num,HP,by omega,trivial⟩
     case measure=>simp[intOf];omega
    ·have JN:=hp.out.trans (pS bC)
     rw[JN] at HB
     clear JN hp
     obtain⟨q,hq⟩:∃q,q=36*x / (x+38):=⟨_,rfl⟩
     have hql:q≤36*x:=by rw[hq];exact Nat.div_le_self _ _
     have hQ:(36*(x:Int)) / ((x:Int)+38)=(q:Int):=by rw[hq];rfl
     have HR:Hid (((tV d n true:Nat):Int)=(k:Int)+q):=hid (by rw[HB.out,hq];rfl)
     clear hq HB
     go_wp2
     go_ret
     exact⟨nT (by rw[HR.out]),rfl⟩
def lS (low:Nat) (f:Option Nat) (c:Nat):Option Nat:=if low≤c then match f with
 |none=>some c
 |some m=>if c < m then some c else some m
 else f
theorem Ot (l:List Nat) (low:Nat):Hi l low=l.foldl (lS low) none:=rfl
theorem RL (v:Value) (l:List Nat) (low:Nat) (w:World) (hv:tW w v l) (hl:l.length≤1000000):
 Calls Tryz.prog 244 #[v,.int .i64 (low:Int)] w fun e w'=>e= .returned (.int .i64 (rL (Hi l low)))∧w=w':=by
 rw[Ot];by_cases eG:l=[]
 ·subst eG;obtain⟨a,c,rfl,hc⟩:=hv.len;go_enter Tryz.func244,Tryz.ntmps244;go_wp2;go_loopw [5,10] (fun a b wr=>a= .int .i64 (-1)∧b= .int .i64 0∧w=wr) (fun a _ _=>0);case atStart=>exact⟨rfl,rfl,rfl⟩
  case round=>obtain⟨rfl,rfl,rfl⟩:=hrel;go_wp2;go_ret;exact⟨rfl,rfl⟩
 ·obtain⟨g,off,c,rfl,hc,aW⟩:=hv.form eG;have HC:=hid aW;clear aW hv eG;go_enter Tryz.func244,Tryz.ntmps244;go_wp2;go_loopw [5,10] (fun a b wr=>∃(k:Nat) (f:Option Nat),a= .int .i64 (rL f)∧b= .int .i64 (k:Int)∧k≤l.length∧Hid (l.foldl (lS low) none=(l.drop k).foldl (lS low) f)∧w=wr) (fun _ b _=>l.length - (intOf b).toNat);case atStart=>exact⟨0,none,rfl,rfl,Nat.zero_le _,hid (by simp),rfl⟩
  case round=>
   obtain⟨k,f,rfl,rfl,hk,hf,rfl⟩:=hrel;by_cases bC:k < l.length
   ·have aW:=HC.out k bC;have nV:=hf.out;rw[List.drop_eq_getElem_cons bC,List.foldl_cons] at nV;generalize l[k]=x at*;cases f with
    |none=>
     have hw:rL none= -1:=rfl;rw[hw];by_cases hx:low≤x
     ·have e:lS low none x=some x:=by unfold lS;rw[if_pos hx]
      rw[e] at nV;have HF:=hid nV;clear nV e hw;go_wp2;go_roundw;case rel=>exact⟨k+1,some x,rfl,by go_num,by omega,HF,trivial⟩
      case measure=>simp[intOf];omega
     ·have e:lS low none x=none:=by unfold lS;rw[if_neg hx]
      rw[e] at nV;have HF:=hid nV;clear nV e hw;go_wp2;go_roundw;case rel=>exact⟨k+1,none,rfl,by go_num,by omega,HF,trivial⟩
      case measure=>simp[intOf];omega
    |some m=>
     have hw:rL (some m)=(m:Int):=rfl;rw[hw];by_cases hx:low≤x∧x < m
     ·have e:lS low (some m) x=some x:=by unfold lS;rw[if_pos hx.1];simp[hx.2]
      rw[e] at nV;have HF:=hid nV;obtain⟨uW,B7⟩:=hx;clear nV e hw;go_wp2;go_roundw;case rel=>exact⟨k+1,some x,rfl,by go_num,by omega,HF,trivial⟩
      case measure=>simp[intOf];omega
     ·have e:lS low (some m) x=some m:=by
       unfold lS;by_cases h1:low≤x;·rw[if_pos h1];have:¬x < m:=fun h=>hx ⟨h1,h⟩;simp[this]
       ·rw[if_neg h1]
      rw[e] at nV;have HF:=hid nV;clear nV e hw;by_cases h1:low≤x
      ·have h2:m≤x:=by omega
       clear hx;go_wp2;go_roundw;case rel=>exact⟨k+1,some m,rfl,by go_num,by omega,HF,trivial⟩
       case measure=>simp[intOf];omega
      ·clear hx;go_wp2;go_roundw;case rel=>exact⟨k+1,some m,rfl,by go_num,by omega,HF,trivial⟩
       case measure=>simp[intOf];omega
   ·obtain rfl:k=l.length:=by omega
    have nV:=hf.out;rw[List.drop_length,List.foldl_nil] at nV;have HF:=hid nV;clear nV hf;go_wp2;go_ret;exact⟨nT (by rw[HF.out]),rfl⟩
def Uj (o:Option (Nat×Nat)):Value:=match o with
 |some (d,k)=> .tuple #[.int .i64 (d:Int),.int .i64 (k:Int)]
 |none=> .tuple #[.int .i64 0,.int .i64 0]
theorem G3 {a b:Value} (h:a=b):Ending.returned a= .returned b:=by rw[h]
theorem VA (j sum weight bJ:Nat):wV j sum weight bJ []=none:=rfl
theorem RM (j sum weight bJ:Nat) (c:UInt8) (t:List UInt8):wV j sum weight bJ (c::t)=match AO c with
 |none=>none
 |some d=>
  if 2147483647 < sum+d*weight then none
  else if d < dV j bJ then some (sum+d*weight,j+1)
  else wV (j+1) (sum+d*weight) (weight*(36 - dV j bJ)) bJ t:=rfl
theorem VB {c:UInt8} {d:Nat} (h:AO c=some d):d≤35:=by
 unfold AO at h;split at h;·cases h;omega
 split at h;·cases h;omega
 split at h;·cases h;omega
 ·cases h
theorem VC (s:List UInt8) (bJ:Nat) (w:World) (hs:s.length≤1000000000) (hb:bJ≤1000000000):
 Calls Tryz.prog 240 #[.string (aA s),.int .i64 (bJ:Int)] w fun e w'=>e= .returned (Uj (Ch s bJ))∧w=w':=by
 have Bc:(aA s).size=s.length:=aD s;have HZ:=hid Bc;clear Bc;have hp:Ch s bJ=wV 0 0 1 bJ s:=rfl;rw[hp];clear hp;go_enter Tryz.func240,Tryz.ntmps240;go_wp2;go_loopw [6,7,13] (fun a b i wr=>∃k sum weight:Nat,a= .int .i64 (sum:Int)∧b= .int .i64 (weight:Int)∧i= .int .i64 (k:Int)∧k≤s.length∧sum≤2147483647∧weight≤75161927645∧Hid (wV 0 0 1 bJ s=wV k sum weight bJ (s.drop k))∧w=wr) (fun _ _ i _=>s.length - (intOf i).toNat);case atStart=>exact⟨0,0,1,rfl,rfl,rfl,Nat.zero_le _,by omega,by omega,hid (by simp),rfl⟩
 case round=>
  obtain⟨k,sum,weight,rfl,rfl,rfl,hk,ajZ,hwt,hf,rfl⟩:=hrel;by_cases bC:k < s.length
  ·have jY:k < (aA s).size:=by rw[HZ.out];exact bC
   obtain⟨c,hd,hg⟩:=iM bC;have hc:=hg jY;have nV:=hf.out;rw[hd,RM] at nV;clear hg hd hf;have HC:=hid (fun w=>RJ c w);cases hwc:AO c with
   |none=>rw[hwc] at nV HC;have HF:=hid nV;clear nV hwc;unfold rL at HC;simp only at HC;go_wp2_with fail;refine(HC.out _).mono ?_;rintro e w' ⟨rfl,rfl⟩;go_wp2_with fail;go_ret2;exact⟨G3 (by rw[HF.out];rfl),rfl⟩
   |some d=>
    have amY:=VB hwc;rw[hwc] at nV HC;unfold rL at HC;simp only at HC nV;clear hwc;have hmul:d*weight≤35*75161927645:=Nat.mul_le_mul amY hwt;by_cases vB:2147483647 < sum+d*weight;·rw[if_pos vB] at nV;have HF:=hid nV;clear nV;go_wp2_with fail;refine(HC.out _).mono ?_;rintro e w' ⟨rfl,rfl⟩;go_wp2_with fail;go_ret2;exact⟨G3 (by rw[HF.out];rfl),rfl⟩
    ·rw[if_neg vB] at nV;have HB:=hid (fun w=>It k bJ (by omega) hb w);have eN:=rG k bJ;have dE:=xK k bJ;by_cases hdb:d < dV k bJ;·rw[if_pos hdb] at nV;have HF:=hid nV;clear nV;generalize dV k bJ=B at*;go_wp2_with fail;refine(HC.out _).mono ?_;rintro e w' ⟨rfl,rfl⟩;go_wp2_with fail;refine(HB.out _).mono ?_;rintro e w' ⟨rfl,rfl⟩;go_wp2_with fail;go_ret2;exact⟨G3 (by rw[HF.out];simp[Uj]),rfl⟩
     ·rw[if_neg hdb] at nV;have amZ:weight≤2147483647:=by have:1*weight≤d*weight:=Nat.mul_le_mul_right _ (by omega);omega
      have akA:weight*(36 - dV k bJ)≤2147483647*35:=Nat.mul_le_mul amZ (by omega);obtain⟨z,hz⟩:∃z,z=weight*(36 - dV k bJ):=⟨_,rfl⟩;have hz':(weight:Int)*(36 - (dV k bJ:Int))=(z:Int):=by rw[hz,Int.natCast_mul,Int.ofNat_sub (by omega)];rfl
      rw[←hz] at nV akA;have HF:=hid nV;have VD:0≤(weight:Int)*(36 - (dV k bJ:Int)):=by omega
      have Ro:(weight:Int)*(36 - (dV k bJ:Int))≤75161927645:=by omega
      have HZ':=hid hz';clear nV hz hz';generalize dV k bJ=B at*;go_wp2_with fail;refine(HC.out _).mono ?_;rintro e w' ⟨rfl,rfl⟩;go_wp2_with fail;refine(HB.out _).mono ?_;rintro e w' ⟨rfl,rfl⟩;go_wp2_with fail;go_roundw;case rel=>exact⟨k+1,sum+d*weight,z,by go_num,by rw[HZ'.out],by go_num,by omega,by omega,by omega,HF,trivial⟩
      case measure=>simp[intOf];omega
  ·obtain rfl:k=s.length:=by omega
   have nV:=hf.out;rw[List.drop_length,VA] at nV;have HF:=hid nV;clear nV hf;have Bc:=HZ.out;go_wp2;go_ret2;exact⟨G3 (by rw[HF.out];rfl),rfl⟩
end Go.Proofs.YtmgmclkplepapaaGreatDoor
