/- Part of the proof of TopBoundsUptoCardSaid. Conditions: none beyond the statement. -/
import Derived.Test.YtmgmclkplepapaaGreatDoorPt8
import Derived.Test.YtmgmclkplepapaaGreatDoorPt12
set_option linter.all false
set_option maxRecDepth 100000
set_option maxHeartbeats 64000000
namespace Go.Proofs.YtmgmclkplepapaaGreatDoor
open Go.RowKit
theorem iZ (c:Nat) (h:eA c) (w:World):Calls Tryz.prog 46 #[.int .i64 (c:Int)] w fun e w'=>e= .returned (.string (aA (kQ c)))∧w=w':=by
 have hE:Utf8.encode (c:Int)=aA (kQ c):=Em c h;have hb:c≤1114111∧(c < 55296∨57344≤c):=by unfold eA at h;omega
 obtain⟨eN,dE⟩:=hb;have d1:decide ((c:Int) < 0)=false:=decide_eq_false (by omega);have d2:decide (1114111 < (c:Int))=false:=decide_eq_false (by omega);have hw:IntKind.i32.wrap (c:Int)=(c:Int):=IntWalk.i32_in _ (by omega);by_cases d:55296≤(c:Int);·have d3:decide (55296≤(c:Int))=true:=decide_eq_true d;have d4:decide ((c:Int)≤57343)=false:=decide_eq_false (by omega);clear eN dE d h;go_enter Tryz.func46,Tryz.ntmps46;go_wp2;go_ret;exact⟨rfl,rfl⟩
 ·have d3:decide (55296≤(c:Int))=false:=decide_eq_false d;clear eN dE d h;go_enter Tryz.func46,Tryz.ntmps46;go_wp2;go_ret;exact⟨rfl,rfl⟩
theorem dG (c:Nat) (A B:Int) (a b:Nat) (hA:A=(a:Int)) (hB:B=(b:Int)) (w:World):Calls Tryz.prog 236 #[.int .i64 (c:Int),.int .i64 A,.int .i64 B] w fun e w'=>e= .returned (.bool (jI c a b))∧w=w':=by subst hA hB;refine(abW (c:Int) (a:Int) (b:Int) w).mono ?_;rintro e w' ⟨rfl,rfl⟩;refine⟨aZ ?_,rfl⟩;unfold jI;rw[Bool.eq_iff_iff];simp
theorem ajZ {a b:List UInt8} (h:a=b):Ending.returned (.string (aA a))= .returned (.string (aA b)):=by rw[h]
theorem RJ (c:Nat) (hc:eA c) (w:World):Calls Tryz.prog 226 #[.int .i64 (c:Int)] w fun e w'=>e= .returned (.string (aA (dD c)))∧w=w':=by
 have oO:c≤1114111:=by unfold eA at hc;omega
 have H0:=hid (fun w=>dG c 65 90 65 90 rfl rfl w);cases h0:jI c 65 90;rw[h0] at H0;have H1:=hid (fun w=>dG c 192 214 192 214 rfl rfl w);cases h1:jI c 192 214;rw[h1] at H1;have H2:=hid (fun w=>dG c 216 222 216 222 rfl rfl w);cases h2:jI c 216 222;rw[h2] at H2;have H3:=hid (fun w=>dG c 913 929 913 929 rfl rfl w);cases h3:jI c 913 929;rw[h3] at H3;have H4:=hid (fun w=>dG c 931 937 931 937 rfl rfl w);cases h4:jI c 931 937;rw[h4] at H4;have H5:=hid (fun w=>dG c 1040 1071 1040 1071 rfl rfl w);cases h5:jI c 1040 1071;rw[h5] at H5;have H6:=hid (fun w=>dG c 256 302 256 302 rfl rfl w);cases h6:jI c 256 302;rw[h6] at H6;by_cases h7:c=304;subst h7;have HO:Hid (dD 304=[105,204,135]):=hid (by decide+kernel);clear hc h0 h1 h2 h3 h4 h5 h6;have tg:=Tg.k 8;rotate_left;have e7:((c:Int)==304)=false:=by simp;omega
 have b7:(c==304)=false:=by simp;omega
 clear h7;have H8:=hid (fun w=>dG c 1024 1039 1024 1039 rfl rfl w);cases h8:jI c 1024 1039;rw[h8] at H8;by_cases h9:c=8228;subst h9;have HO:Hid (dD 8228=[46]):=hid (by decide+kernel);clear hc h0 h1 h2 h3 h4 h5 h6 b7 h8;have tg:=Tg.k 10;rotate_left;have e9:((c:Int)==8228)=false:=by simp;omega
 have b9:(c==8228)=false:=by simp;omega
 clear h9;by_cases zN:c=12290;subst zN;have HO:Hid (dD 12290=[46]):=hid (by decide+kernel);clear hc h0 h1 h2 h3 h4 h5 h6 b7 h8 b9;have tg:=Tg.k 11;rotate_left;have e10:((c:Int)==12290)=false:=by simp;omega
 have XH:(c==12290)=false:=by simp;omega
 clear zN;by_cases Ap:c=65377;subst Ap;have HO:Hid (dD 65377=[46]):=hid (by decide+kernel);clear hc h0 h1 h2 h3 h4 h5 h6 b7 h8 b9 XH;have tg:=Tg.k 12;rotate_left;have e11:((c:Int)==65377)=false:=by simp;omega
 have b11:(c==65377)=false:=by simp;omega
 clear Ap;by_cases xH:c=8448;subst xH;have HO:Hid (dD 8448=[97,47,99]):=hid (by decide+kernel);clear hc h0 h1 h2 h3 h4 h5 h6 b7 h8 b9 XH b11;have tg:=Tg.k 13;rotate_left;have e12:((c:Int)==8448)=false:=by simp;omega
 have b12:(c==8448)=false:=by simp;omega
 clear xH;by_cases AD:c=8453;subst AD;have HO:Hid (dD 8453=[99,47,111]):=hid (by decide+kernel);clear hc h0 h1 h2 h3 h4 h5 h6 b7 h8 b9 XH b11 b12;have tg:=Tg.k 14;rotate_left;have e13:((c:Int)==8453)=false:=by simp;omega
 have b13:(c==8453)=false:=by simp;omega
 clear AD;have H14:=hid (fun w=>dG c 9312 9320 9312 9320 rfl rfl w);cases vN:jI c 9312 9320;rw[vN] at H14;have H15:=hid (fun w=>dG c 65281 65374 65281 65374 rfl rfl w);cases rJ:jI c 65281 65374;rw[rJ] at H15;have H16:=hid (fun w=>dG c 120782 120831 120782 120831 rfl rfl w);cases yU:jI c 120782 120831;rw[yU] at H16;have HO:Hid (dD c=[]):=hid (by unfold dD;simp[h0,h1,h2,h3,h4,h5,h6,b7,h8,b9,XH,b11,b12,b13,vN,rJ,yU]);clear hc h0 h1 h2 h3 h4 h5 h6 b7 h8 b9 XH b11 b12 b13 vN rJ yU;have tg:=Tg.k 19;rotate_left;rw[yU] at H16;have vB:=iB.1 yU;obtain⟨vB,Yw⟩:=vB;have HS:=hid (fun w=>iZ (48+(c - 120782) % 10) (by unfold eA;omega) w);have gW:((48+(c - 120782) % 10:Nat):Int)=48+((c:Int) - 120782) % 10:=by omega
 rw[gW] at HS;have HO:Hid (dD c=kQ (48+(c - 120782) % 10)):=hid (by unfold dD;simp[h0,h1,h2,h3,h4,h5,h6,b7,h8,b9,XH,b11,b12,b13,vN,rJ,yU]);clear gW hc;clear h0 h1 h2 h3 h4 h5 h6 h8 vN rJ yU;have tg:=Tg.k 18;rotate_left;rw[rJ] at H15;obtain⟨vB,Yw⟩:=iB.1 rJ;obtain⟨d,hd⟩:∃d,c=d+65248:=⟨c - 65248,by omega⟩;have HO:Hid (dD c=kQ (Hl c)):=hid (by unfold dD;simp[h0,h1,h2,h3,h4,h5,h6,b7,h8,b9,XH,b11,b12,b13,vN,rJ]);have hdI:(c:Int) - 65248=(d:Int):=by omega
 have HD:=hid (fun w=>dG d 65 90 65 90 rfl rfl w);have CL:d≤126:=by omega
 cases GY:jI d 65 90;rw[GY] at HD;have hwd:Hl c=d:=by unfold Hl;rw[show c - 0xfee0=d by omega,GY];rfl
 have HS:=hid (fun w=>iZ d (by unfold eA;omega) w);rw[hwd] at HO;clear hwd GY hd h0 h1 h2 h3 h4 h5 h6 b7 h8 b9 XH b11 b12 b13 vN rJ hc;have tg:=Tg.k 17;rotate_left;rw[GY] at HD;have hwd:Hl c=d+32:=by unfold Hl;rw[show c - 0xfee0=d by omega,GY];rfl
 have HS:=hid (fun w=>iZ (d+32) (by unfold eA;omega) w);rw[hwd] at HO;have gW:((d+32:Nat):Int)=(d:Int)+32:=by omega
 rw[gW] at HS;clear gW hwd GY hd h0 h1 h2 h3 h4 h5 h6 b7 h8 b9 XH b11 b12 b13 vN rJ hc;have tg:=Tg.k 16;rotate_left;rw[vN] at H14;have vB:=iB.1 vN;obtain⟨vB,Yw⟩:=vB;have HS:=hid (fun w=>iZ (c - 9312+49) (by have:=iB.1 vN;unfold eA;omega) w);have gW:((c - 9312+49:Nat):Int)=(c:Int) - 9312+49:=by omega
 rw[gW] at HS;have HO:Hid (dD c=kQ (c - 9312+49)):=hid (by unfold dD;simp[h0,h1,h2,h3,h4,h5,h6,b7,h8,b9,XH,b11,b12,b13,vN]);clear gW hc;clear h0 h1 h2 h3 h4 h5 h6 h8 vN;have tg:=Tg.k 15;rotate_left;rw[h8] at H8;have vB:=iB.1 h8;obtain⟨vB,Yw⟩:=vB;have HS:=hid (fun w=>iZ (c+80) (by have:=iB.1 h8;unfold eA;omega) w);have gW:((c+80:Nat):Int)=(c:Int)+80:=by omega
 rw[gW] at HS;have HO:Hid (dD c=kQ (c+80)):=hid (by unfold dD;simp[h0,h1,h2,h3,h4,h5,h6,b7,h8]);clear gW hc;clear h0 h1 h2 h3 h4 h5 h6 h8;have tg:=Tg.k 9;rotate_left;rw[h6] at H6;by_cases hm:c % 2=0;have hmI:((c:Int) % 2==0)=true:=by simp;omega
 have vB:=iB.1 h6;obtain⟨vB,Yw⟩:=vB;have HS:=hid (fun w=>iZ (c+1) (by have:=iB.1 h6;unfold eA;omega) w);have gW:((c+1:Nat):Int)=(c:Int)+1:=by omega
 rw[gW] at HS;have HO:Hid (dD c=kQ (c+1)):=hid (by unfold dD;simp[h0,h1,h2,h3,h4,h5,h6,hm]);clear gW hc;clear h0 h1 h2 h3 h4 h5 h6 hm;have tg:=Tg.k 6;rotate_left;have hmI:((c:Int) % 2==0)=false:=by simp;omega
 obtain⟨vB,Yw⟩:=iB.1 h6;have g0:((c:Int)==304)=false:=by simp;omega
 have n0:(c==304)=false:=by simp;omega
 have G1:=hid (fun w=>dG c 1024 1039 1024 1039 rfl rfl w);have g1:jI c 1024 1039=false:=by unfold jI;simp;omega
 rw[g1] at G1;have g2:((c:Int)==8228)=false:=by simp;omega
 have n2:(c==8228)=false:=by simp;omega
 have g3:((c:Int)==12290)=false:=by simp;omega
 have n3:(c==12290)=false:=by simp;omega
 have g4:((c:Int)==65377)=false:=by simp;omega
 have n4:(c==65377)=false:=by simp;omega
 have g5:((c:Int)==8448)=false:=by simp;omega
 have n5:(c==8448)=false:=by simp;omega
 have g6:((c:Int)==8453)=false:=by simp;omega
 have n6:(c==8453)=false:=by simp;omega
 have G7:=hid (fun w=>dG c 9312 9320 9312 9320 rfl rfl w);have g7:jI c 9312 9320=false:=by unfold jI;simp;omega
 rw[g7] at G7;have G8:=hid (fun w=>dG c 65281 65374 65281 65374 rfl rfl w);have g8:jI c 65281 65374=false:=by unfold jI;simp;omega
 rw[g8] at G8;have G9:=hid (fun w=>dG c 120782 120831 120782 120831 rfl rfl w);have g9:jI c 120782 120831=false:=by unfold jI;simp;omega
 rw[g9] at G9;have HO:Hid (dD c=[]):=hid (by unfold dD;simp only[h0,h1,h2,h3,h4,h5,h6,g1,g7,g8,g9,n0,n2,n3,n4,n5,n6,hm];simp[hm]);clear h0 h1 h2 h3 h4 h5 h6 hm g1 g7 g8 g9 n0 n2 n3 n4 n5 n6 hc;have tg:=Tg.k 7;rotate_left;rw[h5] at H5;have vB:=iB.1 h5;obtain⟨vB,Yw⟩:=vB;have HS:=hid (fun w=>iZ (c+32) (by have:=iB.1 h5;unfold eA;omega) w);have gW:((c+32:Nat):Int)=(c:Int)+32:=by omega
 rw[gW] at HS;have HO:Hid (dD c=kQ (c+32)):=hid (by unfold dD;simp[h0,h1,h2,h3,h4,h5]);clear gW hc;clear h0 h1 h2 h3 h4 h5;have tg:=Tg.k 5;rotate_left;rw[h4] at H4;have vB:=iB.1 h4;obtain⟨vB,Yw⟩:=vB;have HS:=hid (fun w=>iZ (c+32) (by have:=iB.1 h4;unfold eA;omega) w);have gW:((c+32:Nat):Int)=(c:Int)+32:=by omega
 rw[gW] at HS;have HO:Hid (dD c=kQ (c+32)):=hid (by unfold dD;simp[h0,h1,h2,h3,h4]);clear gW hc;clear h0 h1 h2 h3 h4;have tg:=Tg.k 4;rotate_left;rw[h3] at H3;have vB:=iB.1 h3;obtain⟨vB,Yw⟩:=vB;have HS:=hid (fun w=>iZ (c+32) (by have:=iB.1 h3;unfold eA;omega) w);have gW:((c+32:Nat):Int)=(c:Int)+32:=by omega
 rw[gW] at HS;have HO:Hid (dD c=kQ (c+32)):=hid (by unfold dD;simp[h0,h1,h2,h3]);clear gW hc;clear h0 h1 h2 h3;have tg:=Tg.k 3;rotate_left;rw[h2] at H2;have vB:=iB.1 h2;obtain⟨vB,Yw⟩:=vB;have HS:=hid (fun w=>iZ (c+32) (by have:=iB.1 h2;unfold eA;omega) w);have gW:((c+32:Nat):Int)=(c:Int)+32:=by omega
 rw[gW] at HS;have HO:Hid (dD c=kQ (c+32)):=hid (by unfold dD;simp[h0,h1,h2]);clear gW hc;clear h0 h1 h2;have tg:=Tg.k 2;rotate_left;rw[h1] at H1;have vB:=iB.1 h1;obtain⟨vB,Yw⟩:=vB;have HS:=hid (fun w=>iZ (c+32) (by have:=iB.1 h1;unfold eA;omega) w);have gW:((c+32:Nat):Int)=(c:Int)+32:=by omega
 rw[gW] at HS;have HO:Hid (dD c=kQ (c+32)):=hid (by unfold dD;simp[h0,h1]);clear gW hc;clear h0 h1;have tg:=Tg.k 1;rotate_left;rw[h0] at H0;have vB:=iB.1 h0;obtain⟨vB,Yw⟩:=vB;have HS:=hid (fun w=>iZ (c+32) (by have:=iB.1 h0;unfold eA;omega) w);have gW:((c+32:Nat):Int)=(c:Int)+32:=by omega
 rw[gW] at HS;have HO:Hid (dD c=kQ (c+32)):=hid (by unfold dD;simp[h0]);clear gW hc;clear h0;have tg:=Tg.k 0;all_goals
  go_enter Tryz.func226,Tryz.ntmps226;go_wp2_with fail;refine(H0.out _).mono ?_;rintro e w' ⟨rfl,rfl⟩;go_wp2_with fail;first
  |have:Tg 0:=tg;refine(HS.out _).mono ?_
  |refine(H1.out _).mono ?_;rintro e w' ⟨rfl,rfl⟩;go_wp2_with fail;first
   |have:Tg 1:=tg;refine(HS.out _).mono ?_
   |refine(H2.out _).mono ?_;rintro e w' ⟨rfl,rfl⟩;go_wp2_with fail;first
    |have:Tg 2:=tg;refine(HS.out _).mono ?_
    |refine(H3.out _).mono ?_;rintro e w' ⟨rfl,rfl⟩;go_wp2_with fail;first
     |have:Tg 3:=tg;refine(HS.out _).mono ?_
     |refine(H4.out _).mono ?_;rintro e w' ⟨rfl,rfl⟩;go_wp2_with fail;first
      |have:Tg 4:=tg;refine(HS.out _).mono ?_
      |refine(H5.out _).mono ?_;rintro e w' ⟨rfl,rfl⟩;go_wp2_with fail;first
       |have:Tg 5:=tg;refine(HS.out _).mono ?_
       |refine(H6.out _).mono ?_;first
        |have:Tg 8:=tg
        |rintro e w' ⟨rfl,rfl⟩;go_wp2_with fail;first
         |have:Tg 7:=tg;refine(G1.out _).mono ?_;rintro e w' ⟨rfl,rfl⟩;go_wp2_with fail;refine(G7.out _).mono ?_;rintro e w' ⟨rfl,rfl⟩;go_wp2_with fail;refine(G8.out _).mono ?_;rintro e w' ⟨rfl,rfl⟩;go_wp2_with fail;refine(G9.out _).mono ?_
         |have:Tg 6:=tg;refine(HS.out _).mono ?_
         |refine(H8.out _).mono ?_;first
          |(first|have:Tg 10:=tg|have:Tg 11:=tg|have:Tg 12:=tg|have:Tg 13:=tg|have:Tg 14:=tg)
          |rintro e w' ⟨rfl,rfl⟩;go_wp2_with fail;first
           |have:Tg 9:=tg;refine(HS.out _).mono ?_
           |refine(H14.out _).mono ?_;rintro e w' ⟨rfl,rfl⟩;go_wp2_with fail;first
            |have:Tg 15:=tg;refine(HS.out _).mono ?_
            |refine(H15.out _).mono ?_;rintro e w' ⟨rfl,rfl⟩;go_wp2_with fail;first
             |have:Tg 19:=tg;refine(H16.out _).mono ?_
             |first
              |have:Tg 18:=tg;refine(H16.out _).mono ?_
              |refine(HD.out _).mono ?_
              rintro e w' ⟨rfl,rfl⟩;go_wp2_with fail;refine(HS.out _).mono ?_
  rintro e w' ⟨rfl,rfl⟩;go_wp2_with fail;go_ret;exact⟨ajZ HO.out.symm,rfl⟩
def rM (o:Option Nat):Int:=match o with
 |some d=>(d:Int)
 |none=> -1
theorem VA (c:UInt8):rM (AP c)=if 97≤(c.toNat:Int)∧(c.toNat:Int)≤122 then(c.toNat:Int) - 97 else if 65≤(c.toNat:Int)∧(c.toNat:Int)≤90 then(c.toNat:Int) - 65 else if 48≤(c.toNat:Int)∧(c.toNat:Int)≤57 then(c.toNat:Int) - 48+26 else -1:=by
 have e1:(97≤(c.toNat:Int)∧(c.toNat:Int)≤122)=(97≤c.toNat∧c.toNat≤122):=propext (by omega);have e2:(65≤(c.toNat:Int)∧(c.toNat:Int)≤90)=(65≤c.toNat∧c.toNat≤90):=propext (by omega);have e3:(48≤(c.toNat:Int)∧(c.toNat:Int)≤57)=(48≤c.toNat∧c.toNat≤57):=propext (by omega);simp only[e1,e2,e3];unfold AP;clear e1 e2 e3;by_cases h1:97≤c.toNat∧c.toNat≤122;·simp only[if_pos h1,rM];omega
 by_cases h2:65≤c.toNat∧c.toNat≤90;·simp only[if_neg h1,if_pos h2,rM];omega
 by_cases h3:48≤c.toNat∧c.toNat≤57;·simp only[if_neg h1,if_neg h2,if_pos h3,rM];omega
 simp only[if_neg h1,if_neg h2,if_neg h3,rM]
theorem RL (c:UInt8) (w:World):Calls Tryz.prog 248 #[.int .u8 (c.toNat:Int)] w fun e w'=>e= .returned (.int .i64 (rM (AP c)))∧w=w':=by
 have bC:c.toNat < 256:=c.toNat_lt;have hg:=hid (VA c);go_enter Tryz.func248,Tryz.ntmps248;go_wp2;all_goals go_ret
 all_goals refine⟨nU ?_,rfl⟩
 all_goals(go_light;rw[hg.out];(repeat' split)<;>omega)
theorem Yx (d:Nat) (h:d < 36):((qA d).toNat:Int)=if(d:Int) < 26 then 97+(d:Int) else 48+d - 26:=by
 have:∀i:Fin 36,((qA i.val).toNat:Int)=if(i.val:Int) < 26 then 97+(i.val:Int) else 48+i.val - 26:=by decide+kernel
 exact this ⟨d,h⟩
theorem It (d:Nat) (h:d < 36) (w:World):Calls Tryz.prog 252 #[.int .i64 (d:Int)] w fun e w'=>e= .returned (.int .u8 ((qA d).toNat:Int))∧w=w':=by
 have hg:=hid (Yx d h);go_enter Tryz.func252,Tryz.ntmps252;go_wp2;all_goals go_ret
 all_goals refine⟨nU ?_,rfl⟩
 all_goals(go_light;rw[hg.out];(repeat' split)<;>omega)
theorem Iu (j bJ:Nat) (h1:j≤1000000000) (h2:bJ≤1000000000) (w:World):Calls Tryz.prog 249 #[.int .i64 (j:Int),.int .i64 (bJ:Int)] w fun e w'=>e= .returned (.int .i64 ((dV j bJ:Nat):Int))∧w=w':=by
 have hg:Hid (((dV j bJ:Nat):Int)=min (max (36*((j:Int)+1) - bJ) 1) 26):=hid (by unfold dV;omega);go_enter Tryz.func249,Tryz.ntmps249;go_wp2;all_goals go_ret
 all_goals refine⟨nU ?_,rfl⟩
 all_goals(go_light;rw[hg.out])
 all_goals omega
theorem uF {d k:Nat} (h:455 < d):fL d k=fL (d / 35) (k+36):=by rw[fL,dif_pos h]
theorem pT {d k:Nat} (h:¬455 < d):fL d k=(d,k):=by rw[fL,dif_neg h]
theorem Cm (d n:Nat) (first:Bool) (hd:d≤1000000000000) (hn:1≤n) (hn2:n≤1000000) (w:World):
 Calls Tryz.prog 243 #[.int .i64 (d:Int),.int .i64 (n:Int),.bool first] w fun e w'=>e= .returned (.int .i64 ((tW d n first:Nat):Int))∧w=w':=by
 cases first
 have HB:Hid (tW d n false=(fL (d / 2+d / 2 / n) 0).2+36*(fL (d / 2+d / 2 / n) 0).1 / ((fL (d / 2+d / 2 / n) 0).1+38)):=hid rfl;obtain⟨z,hz⟩:∃z,z=d / 2+d / 2 / n:=⟨_,rfl⟩;have Uj:z≤2000000000000:=by have:d / 2 / n≤d / 2:=Nat.div_le_self _ _;omega
 have hW:wrap64 ((d:Int) / 2+(d:Int) / 2 / (n:Int))=(z:Int):=by
  rw[IntWalk.wrap64_in];·rw[hz];rfl
  ·have e:(d:Int) / 2+(d:Int) / 2 / (n:Int)=((d / 2+d / 2 / n:Nat):Int):=by rfl
   rw[e,←hz];omega
 rw[←hz] at HB;clear hz;have tg:=Tg.k 0;rotate_left;have HB:Hid (tW d n true=(fL (d / 700+d / 700 / n) 0).2+36*(fL (d / 700+d / 700 / n) 0).1 / ((fL (d / 700+d / 700 / n) 0).1+38)):=hid rfl;obtain⟨z,hz⟩:∃z,z=d / 700+d / 700 / n:=⟨_,rfl⟩;have Uj:z≤2000000000000:=by have:d / 700 / n≤d / 700:=Nat.div_le_self _ _;omega
 have hW:wrap64 ((d:Int) / 700+(d:Int) / 700 / (n:Int))=(z:Int):=by
  rw[IntWalk.wrap64_in];·rw[hz];rfl
  ·have e:(d:Int) / 700+(d:Int) / 700 / (n:Int)=((d / 700+d / 700 / n:Nat):Int):=by rfl
   rw[e,←hz];omega
 rw[←hz] at HB;clear hz;have tg:=Tg.k 1;all_goals
  go_enter Tryz.func243,Tryz.ntmps243;go_wp2;have HW:=hid hW;clear hW;go_loopw [0,7] (fun a b wr=>∃x k:Nat,a= .int .i64 (x:Int)∧b= .int .i64 (k:Int)∧Hid (fL z 0=fL x k)∧36*x+k≤100000000000000∧w=wr) (fun a _ _=>(intOf a).toNat);case atStart=>exact⟨z,0,by rw[HW.out],rfl,hid rfl,by omega,rfl⟩
  first
  |have:Tg 0:=tg;case round=>
    obtain⟨x,k,rfl,rfl,hp,hx,rfl⟩:=hrel;by_cases bC:455 < x
    ·have JP:=hp.out.trans (uF bC);have HP:=hid JP;clear JP hp;go_wp2;go_roundw;case rel=>exact⟨x / 35,k+36,by go_num,by go_num,HP,by omega,trivial⟩
     case measure=>simp[intOf];omega
    ·have JP:=hp.out.trans (pT bC);rw[JP] at HB;clear JP hp;obtain⟨q,hq⟩:∃q,q=36*x / (x+38):=⟨_,rfl⟩;have hql:q≤36*x:=by rw[hq];exact Nat.div_le_self _ _
     have hQ:(36*(x:Int)) / ((x:Int)+38)=(q:Int):=by rw[hq];rfl
     have HR:Hid (((tW d n false:Nat):Int)=(k:Int)+q):=hid (by rw[HB.out,hq];rfl);clear hq HB;go_wp2;go_ret;exact⟨nU (by rw[HR.out]),rfl⟩
  |case round=>
    obtain⟨x,k,rfl,rfl,hp,hx,rfl⟩:=hrel
    by_cases bC:455 < x
    ·have JP:=hp.out.trans (uF bC)
     have HP:=hid JP
     clear JP hp
     go_wp2
     go_roundw
     case rel=>exact⟨x / 35,k+36,by go_num,by go_num,HP,by omega,trivial⟩
     case measure=>simp[intOf];omega
    ·have JP:=hp.out.trans (pT bC)
     rw[JP] at HB
     clear JP hp
     obtain⟨q,hq⟩:∃q,q=36*x / (x+38):=⟨_,rfl⟩
     have hql:q≤36*x:=by rw[hq];exact Nat.div_le_self _ _
     have hQ:(36*(x:Int)) / ((x:Int)+38)=(q:Int):=by rw[hq];rfl
     have HR:Hid (((tW d n true:Nat):Int)=(k:Int)+q):=hid (by rw[HB.out,hq];rfl)
     clear hq HB
     go_wp2
     go_ret
     exact⟨nU (by rw[HR.out]),rfl⟩
def lT (low:Nat) (f:Option Nat) (c:Nat):Option Nat:=if low≤c then match f with
 |none=>some c
 |some m=>if c < m then some c else some m
 else f
theorem Ou (l:List Nat) (low:Nat):Hj l low=l.foldl (lT low) none:=rfl
theorem RM (v:Value) (l:List Nat) (low:Nat) (w:World) (hv:tX w v l) (hl:l.length≤1000000):
 Calls Tryz.prog 244 #[v,.int .i64 (low:Int)] w fun e w'=>e= .returned (.int .i64 (rM (Hj l low)))∧w=w':=by
 rw[Ou];by_cases eG:l=[]
 ·subst eG;obtain⟨a,c,rfl,hc⟩:=hv.len;go_enter Tryz.func244,Tryz.ntmps244;go_wp2;go_loopw [5,10] (fun a b wr=>a= .int .i64 (-1)∧b= .int .i64 0∧w=wr) (fun a _ _=>0);case atStart=>exact⟨rfl,rfl,rfl⟩
  case round=>obtain⟨rfl,rfl,rfl⟩:=hrel;go_wp2;go_ret;exact⟨rfl,rfl⟩
 ·obtain⟨g,off,c,rfl,hc,aW⟩:=hv.form eG;have HC:=hid aW;clear aW hv eG;go_enter Tryz.func244,Tryz.ntmps244;go_wp2;go_loopw [5,10] (fun a b wr=>∃(k:Nat) (f:Option Nat),a= .int .i64 (rM f)∧b= .int .i64 (k:Int)∧k≤l.length∧Hid (l.foldl (lT low) none=(l.drop k).foldl (lT low) f)∧w=wr) (fun _ b _=>l.length - (intOf b).toNat);case atStart=>exact⟨0,none,rfl,rfl,Nat.zero_le _,hid (by simp),rfl⟩
  case round=>
   obtain⟨k,f,rfl,rfl,hk,hf,rfl⟩:=hrel;by_cases bC:k < l.length
   ·have aW:=HC.out k bC;have nW:=hf.out;rw[List.drop_eq_getElem_cons bC,List.foldl_cons] at nW;generalize l[k]=x at*;cases f with
    |none=>
     have hw:rM none= -1:=rfl;rw[hw];by_cases hx:low≤x
     ·have e:lT low none x=some x:=by unfold lT;rw[if_pos hx]
      rw[e] at nW;have HF:=hid nW;clear nW e hw;go_wp2;go_roundw;case rel=>exact⟨k+1,some x,rfl,by go_num,by omega,HF,trivial⟩
      case measure=>simp[intOf];omega
     ·have e:lT low none x=none:=by unfold lT;rw[if_neg hx]
      rw[e] at nW;have HF:=hid nW;clear nW e hw;go_wp2;go_roundw;case rel=>exact⟨k+1,none,rfl,by go_num,by omega,HF,trivial⟩
      case measure=>simp[intOf];omega
    |some m=>
     have hw:rM (some m)=(m:Int):=rfl;rw[hw];by_cases hx:low≤x∧x < m
     ·have e:lT low (some m) x=some x:=by unfold lT;rw[if_pos hx.1];simp[hx.2]
      rw[e] at nW;have HF:=hid nW;obtain⟨uX,B8⟩:=hx;clear nW e hw;go_wp2;go_roundw;case rel=>exact⟨k+1,some x,rfl,by go_num,by omega,HF,trivial⟩
      case measure=>simp[intOf];omega
     ·have e:lT low (some m) x=some m:=by
       unfold lT;by_cases h1:low≤x;·rw[if_pos h1];have:¬x < m:=fun h=>hx ⟨h1,h⟩;simp[this]
       ·rw[if_neg h1]
      rw[e] at nW;have HF:=hid nW;clear nW e hw;by_cases h1:low≤x
      ·have h2:m≤x:=by omega
       clear hx;go_wp2;go_roundw;case rel=>exact⟨k+1,some m,rfl,by go_num,by omega,HF,trivial⟩
       case measure=>simp[intOf];omega
      ·clear hx;go_wp2;go_roundw;case rel=>exact⟨k+1,some m,rfl,by go_num,by omega,HF,trivial⟩
       case measure=>simp[intOf];omega
   ·obtain rfl:k=l.length:=by omega
    have nW:=hf.out;rw[List.drop_length,List.foldl_nil] at nW;have HF:=hid nW;clear nW hf;go_wp2;go_ret;exact⟨nU (by rw[HF.out]),rfl⟩
def Uk (o:Option (Nat×Nat)):Value:=match o with
 |some (d,k)=> .tuple #[.int .i64 (d:Int),.int .i64 (k:Int)]
 |none=> .tuple #[.int .i64 0,.int .i64 0]
theorem G4 {a b:Value} (h:a=b):Ending.returned a= .returned b:=by rw[h]
theorem VB (j sum weight bJ:Nat):wW j sum weight bJ []=none:=rfl
theorem RN (j sum weight bJ:Nat) (c:UInt8) (t:List UInt8):wW j sum weight bJ (c::t)=match AP c with
 |none=>none
 |some d=>
  if 2147483647 < sum+d*weight then none
  else if d < dV j bJ then some (sum+d*weight,j+1)
  else wW (j+1) (sum+d*weight) (weight*(36 - dV j bJ)) bJ t:=rfl
theorem VC {c:UInt8} {d:Nat} (h:AP c=some d):d≤35:=by
 unfold AP at h;split at h;·cases h;omega
 split at h;·cases h;omega
 split at h;·cases h;omega
 ·cases h
theorem VD (s:List UInt8) (bJ:Nat) (w:World) (hs:s.length≤1000000000) (hb:bJ≤1000000000):
 Calls Tryz.prog 240 #[.string (aA s),.int .i64 (bJ:Int)] w fun e w'=>e= .returned (Uk (Ci s bJ))∧w=w':=by
 have Bd:(aA s).size=s.length:=aD s;have HZ:=hid Bd;clear Bd;have hp:Ci s bJ=wW 0 0 1 bJ s:=rfl;rw[hp];clear hp;go_enter Tryz.func240,Tryz.ntmps240;go_wp2;go_loopw [6,7,13] (fun a b i wr=>∃k sum weight:Nat,a= .int .i64 (sum:Int)∧b= .int .i64 (weight:Int)∧i= .int .i64 (k:Int)∧k≤s.length∧sum≤2147483647∧weight≤75161927645∧Hid (wW 0 0 1 bJ s=wW k sum weight bJ (s.drop k))∧w=wr) (fun _ _ i _=>s.length - (intOf i).toNat);case atStart=>exact⟨0,0,1,rfl,rfl,rfl,Nat.zero_le _,by omega,by omega,hid (by simp),rfl⟩
 case round=>
  obtain⟨k,sum,weight,rfl,rfl,rfl,hk,akA,hwt,hf,rfl⟩:=hrel;by_cases bC:k < s.length
  ·have jZ:k < (aA s).size:=by rw[HZ.out];exact bC
   obtain⟨c,hd,hg⟩:=iN bC;have hc:=hg jZ;have nW:=hf.out;rw[hd,RN] at nW;clear hg hd hf;have HC:=hid (fun w=>RL c w);cases hwc:AP c with
   |none=>rw[hwc] at nW HC;have HF:=hid nW;clear nW hwc;unfold rM at HC;simp only at HC;go_wp2_with fail;refine(HC.out _).mono ?_;rintro e w' ⟨rfl,rfl⟩;go_wp2_with fail;go_ret2;exact⟨G4 (by rw[HF.out];rfl),rfl⟩
   |some d=>
    have amZ:=VC hwc;rw[hwc] at nW HC;unfold rM at HC;simp only at HC nW;clear hwc;have hmul:d*weight≤35*75161927645:=Nat.mul_le_mul amZ hwt;by_cases vC:2147483647 < sum+d*weight;·rw[if_pos vC] at nW;have HF:=hid nW;clear nW;go_wp2_with fail;refine(HC.out _).mono ?_;rintro e w' ⟨rfl,rfl⟩;go_wp2_with fail;go_ret2;exact⟨G4 (by rw[HF.out];rfl),rfl⟩
    ·rw[if_neg vC] at nW;have HB:=hid (fun w=>Iu k bJ (by omega) hb w);have eN:=rH k bJ;have dE:=xL k bJ;by_cases hdb:d < dV k bJ;·rw[if_pos hdb] at nW;have HF:=hid nW;clear nW;generalize dV k bJ=B at*;go_wp2_with fail;refine(HC.out _).mono ?_;rintro e w' ⟨rfl,rfl⟩;go_wp2_with fail;refine(HB.out _).mono ?_;rintro e w' ⟨rfl,rfl⟩;go_wp2_with fail;go_ret2;exact⟨G4 (by rw[HF.out];simp[Uk]),rfl⟩
     ·rw[if_neg hdb] at nW;have anA:weight≤2147483647:=by have:1*weight≤d*weight:=Nat.mul_le_mul_right _ (by omega);omega
      have akB:weight*(36 - dV k bJ)≤2147483647*35:=Nat.mul_le_mul anA (by omega);obtain⟨z,hz⟩:∃z,z=weight*(36 - dV k bJ):=⟨_,rfl⟩;have hz':(weight:Int)*(36 - (dV k bJ:Int))=(z:Int):=by rw[hz,Int.natCast_mul,Int.ofNat_sub (by omega)];rfl
      rw[←hz] at nW akB;have HF:=hid nW;have VE:0≤(weight:Int)*(36 - (dV k bJ:Int)):=by omega
      have Rp:(weight:Int)*(36 - (dV k bJ:Int))≤75161927645:=by omega
      have HZ':=hid hz';clear nW hz hz';generalize dV k bJ=B at*;go_wp2_with fail;refine(HC.out _).mono ?_;rintro e w' ⟨rfl,rfl⟩;go_wp2_with fail;refine(HB.out _).mono ?_;rintro e w' ⟨rfl,rfl⟩;go_wp2_with fail;go_roundw;case rel=>exact⟨k+1,sum+d*weight,z,by go_num,by rw[HZ'.out],by go_num,by omega,by omega,by omega,HF,trivial⟩
      case measure=>simp[intOf];omega
  ·obtain rfl:k=s.length:=by omega
   have nW:=hf.out;rw[List.drop_length,VB] at nW;have HF:=hid nW;clear nW hf;have Bd:=HZ.out;go_wp2;go_ret2;exact⟨G4 (by rw[HF.out];rfl),rfl⟩
end Go.Proofs.YtmgmclkplepapaaGreatDoor
