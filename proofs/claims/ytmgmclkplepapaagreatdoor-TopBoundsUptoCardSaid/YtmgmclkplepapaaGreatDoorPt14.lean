/- Part of the proof of TopBoundsUptoCardSaid. Conditions: none beyond the statement. -/
import Derived.Test.YtmgmclkplepapaaGreatDoorPt9
import Derived.Test.YtmgmclkplepapaaGreatDoorPt13
set_option linter.all false
set_option maxRecDepth 100000
set_option maxHeartbeats 64000000
namespace Go.Proofs.YtmgmclkplepapaaGreatDoor
open Go.RowKit
def iE:Array Value:= #[.int .i64 0,.int .i64 127,.int .i64 223,.int .i64 246,.int .i64 248,.int .i64 255,.int .i64 257,.int .i64 303,.int .i64 768,.int .i64 879,.int .i64 945,.int .i64 969,.int .i64 1072,.int .i64 1119,.int .i64 12353,.int .i64 12438,.int .i64 12449,.int .i64 12538,.int .i64 19968,.int .i64 40959,.int .i64 44032,.int .i64 55203,.int .i64 127744,.int .i64 128511]
def EM:Array Value:= #[.int .i64 0,.int .i64 0,.int .i64 0,.int .i64 0,.int .i64 0,.int .i64 0,.int .i64 0,.int .i64 0,.int .i64 0,.int .i64 0,.int .i64 0,.int .i64 0,.int .i64 0,.int .i64 0,.int .i64 0,.int .i64 0,.int .i64 0,.int .i64 0,.int .i64 0,.int .i64 0,.int .i64 0,.int .i64 0,.int .i64 0,.int .i64 0]
theorem GB (w:World) (uY:Value):(Instr.alloc 239 true uY).run Tryz.prog w= .ok (.pointer (some ⟨w.heap.size,0,none⟩)) (w.alloc (.cells EM 239)):=by kernel_rfl
theorem VF (W:World):(Instr.index 239 (.agg iE) (.int .i64 0)).run Tryz.prog W= .ok (.agg #[.int .i64 0,.int .i64 127]) W:=by kernel_rfl
theorem VG (W:World):(Instr.index 239 (.agg iE) (.int .i64 1)).run Tryz.prog W= .ok (.agg #[.int .i64 223,.int .i64 246]) W:=by kernel_rfl
theorem VH (W:World):(Instr.index 239 (.agg iE) (.int .i64 2)).run Tryz.prog W= .ok (.agg #[.int .i64 248,.int .i64 255]) W:=by kernel_rfl
theorem VI (W:World):(Instr.index 239 (.agg iE) (.int .i64 3)).run Tryz.prog W= .ok (.agg #[.int .i64 257,.int .i64 303]) W:=by kernel_rfl
theorem VJ (W:World):(Instr.index 239 (.agg iE) (.int .i64 4)).run Tryz.prog W= .ok (.agg #[.int .i64 768,.int .i64 879]) W:=by kernel_rfl
theorem VK (W:World):(Instr.index 239 (.agg iE) (.int .i64 5)).run Tryz.prog W= .ok (.agg #[.int .i64 945,.int .i64 969]) W:=by kernel_rfl
theorem VL (W:World):(Instr.index 239 (.agg iE) (.int .i64 6)).run Tryz.prog W= .ok (.agg #[.int .i64 1072,.int .i64 1119]) W:=by kernel_rfl
theorem VM (W:World):(Instr.index 239 (.agg iE) (.int .i64 7)).run Tryz.prog W= .ok (.agg #[.int .i64 12353,.int .i64 12438]) W:=by kernel_rfl
theorem VN (W:World):(Instr.index 239 (.agg iE) (.int .i64 8)).run Tryz.prog W= .ok (.agg #[.int .i64 12449,.int .i64 12538]) W:=by kernel_rfl
theorem VO (W:World):(Instr.index 239 (.agg iE) (.int .i64 9)).run Tryz.prog W= .ok (.agg #[.int .i64 19968,.int .i64 40959]) W:=by kernel_rfl
theorem RO (W:World):(Instr.index 239 (.agg iE) (.int .i64 10)).run Tryz.prog W= .ok (.agg #[.int .i64 44032,.int .i64 55203]) W:=by kernel_rfl
theorem RP (W:World):(Instr.index 239 (.agg iE) (.int .i64 11)).run Tryz.prog W= .ok (.agg #[.int .i64 127744,.int .i64 128511]) W:=by kernel_rfl
theorem RQ (c:Nat) (w:World):Calls Tryz.prog 228 #[.int .i64 (c:Int)] w fun e w'=>e= .returned (.bool (cY c))∧Below w.heap.size w w':=by
 go_enter Tryz.func228,Tryz.ntmps228;go_upto_region 1 with(fail)
 (try simp only[List.append_eq,List.cons_append,List.nil_append])
 apply wp_region_lit;refine aG rfl 238 _ rfl _ (.agg #[.int .i64 0,.int .i64 127]) (by kernel_rfl) ?_;simp only[pq];refine aG rfl 238 _ rfl _ (.agg #[.int .i64 223,.int .i64 246]) (by kernel_rfl) ?_;simp only[pq];refine aG rfl 238 _ rfl _ (.agg #[.int .i64 248,.int .i64 255]) (by kernel_rfl) ?_;simp only[pq];refine aG rfl 238 _ rfl _ (.agg #[.int .i64 257,.int .i64 303]) (by kernel_rfl) ?_;simp only[pq];refine aG rfl 238 _ rfl _ (.agg #[.int .i64 768,.int .i64 879]) (by kernel_rfl) ?_;simp only[pq];refine aG rfl 238 _ rfl _ (.agg #[.int .i64 945,.int .i64 969]) (by kernel_rfl) ?_;simp only[pq];refine aG rfl 238 _ rfl _ (.agg #[.int .i64 1072,.int .i64 1119]) (by kernel_rfl) ?_;simp only[pq];refine aG rfl 238 _ rfl _ (.agg #[.int .i64 12353,.int .i64 12438]) (by kernel_rfl) ?_;simp only[pq];refine aG rfl 238 _ rfl _ (.agg #[.int .i64 12449,.int .i64 12538]) (by kernel_rfl) ?_;simp only[pq];refine aG rfl 238 _ rfl _ (.agg #[.int .i64 19968,.int .i64 40959]) (by kernel_rfl) ?_;simp only[pq];refine aG rfl 238 _ rfl _ (.agg #[.int .i64 44032,.int .i64 55203]) (by kernel_rfl) ?_;simp only[pq];refine aG rfl 238 _ rfl _ (.agg #[.int .i64 127744,.int .i64 128511]) (by kernel_rfl) ?_;simp only[pq];refine aG rfl 239 _ rfl _ (.agg iE) (by kernel_rfl) ?_;simp only[pq];refine yC rfl 239 rfl _ EM (fun uY=>GB _ uY) ?_;simp only[pq];refine rK rfl 239 _ _ rfl w EM iE _ rfl rfl rfl (by kernel_rfl) (by kernel_rfl) (by kernel_rfl) ?_;simp only[pq];apply wpList_nil;have HH:=hid (Vr w (.cells iE 239));have HB:=hid (xC w (.cells iE 239));generalize w.alloc (.cells iE 239)=w1 at*;go_upto_region 2 with(fail)
 (try simp only[List.append_eq,List.cons_append,List.nil_append])
 apply wp_region_lit;refine Gu rfl 239 _ rfl 24 _ _ iE Tryz.isAgg239 Tryz.sizeOf239 rfl rfl HH.out ?_;simp only[pq]
 (refine bF rfl ?_;intro K hK;go_simp;refine hK _ _ ?_;clear hK K)
 apply wpList_nil;go_wp2_with fail;go_loopw [20] (fun i wr=>∃k:Nat,i= .int .i64 (k:Int)∧k≤12∧Hid (cY c=(eZ.drop k).any fun r=>jI c r.1 r.2)∧Hid (Below w.heap.size w wr)) (fun i _=>12 - (intOf i).toNat);case atStart=>exact⟨0,rfl,by omega,hid rfl,HB⟩
 case round=>
  obtain⟨k,rfl,hk,hF,dR⟩:=hrel;have dO:k=0∨k=1∨k=2∨k=3∨k=4∨k=5∨k=6∨k=7∨k=8∨k=9∨k=10∨k=11∨k=12:=by omega
  rcases dO with rfl|rfl|rfl|rfl|rfl|rfl|rfl|rfl|rfl|rfl|rfl|rfl|rfl
  ·have hx:=VF;have HI:=hid (fun w=>dG c 0 127 0 127 rfl rfl w);have aT:cY c=(jI c 0 127||(eZ.drop 1).any fun r=>jI c r.1 r.2):=hF.out;have Be:=hid (dR.out.alloc dR.out.size (.cells #[.int .i64 0,.int .i64 127] 238));cases h:jI c 0 127 with
   |true=>rw[h] at HI aT;have HF:Hid (cY c=true):=hid (by rw[aT];rfl);clear h hF aT hk;go_wp2_with fail;refine(HI.out _).mono ?_;rintro e w' ⟨rfl,rfl⟩;go_wp2_with fail;go_ret;exact⟨aZ HF.out.symm,Be.out⟩
   |false=>
    rw[h] at HI aT;have HF:Hid (cY c=(eZ.drop 1).any fun r=>jI c r.1 r.2):=hid (by rw[aT];rfl);clear h hF aT hk;go_wp2_with fail;refine(HI.out _).mono ?_;rintro e w' ⟨rfl,rfl⟩;go_wp2_with fail;go_roundw;case rel=>exact⟨1,rfl,by omega,HF,Be⟩
    case measure=>simp[intOf]
  ·have hx:=VG;have HI:=hid (fun w=>dG c 223 246 223 246 rfl rfl w);have aT:cY c=(jI c 223 246||(eZ.drop 2).any fun r=>jI c r.1 r.2):=hF.out;have Be:=hid (dR.out.alloc dR.out.size (.cells #[.int .i64 223,.int .i64 246] 238));cases h:jI c 223 246 with
   |true=>rw[h] at HI aT;have HF:Hid (cY c=true):=hid (by rw[aT];rfl);clear h hF aT hk;go_wp2_with fail;refine(HI.out _).mono ?_;rintro e w' ⟨rfl,rfl⟩;go_wp2_with fail;go_ret;exact⟨aZ HF.out.symm,Be.out⟩
   |false=>
    rw[h] at HI aT;have HF:Hid (cY c=(eZ.drop 2).any fun r=>jI c r.1 r.2):=hid (by rw[aT];rfl);clear h hF aT hk;go_wp2_with fail;refine(HI.out _).mono ?_;rintro e w' ⟨rfl,rfl⟩;go_wp2_with fail;go_roundw;case rel=>exact⟨2,rfl,by omega,HF,Be⟩
    case measure=>simp[intOf]
  ·have hx:=VH;have HI:=hid (fun w=>dG c 248 255 248 255 rfl rfl w);have aT:cY c=(jI c 248 255||(eZ.drop 3).any fun r=>jI c r.1 r.2):=hF.out;have Be:=hid (dR.out.alloc dR.out.size (.cells #[.int .i64 248,.int .i64 255] 238));cases h:jI c 248 255 with
   |true=>rw[h] at HI aT;have HF:Hid (cY c=true):=hid (by rw[aT];rfl);clear h hF aT hk;go_wp2_with fail;refine(HI.out _).mono ?_;rintro e w' ⟨rfl,rfl⟩;go_wp2_with fail;go_ret;exact⟨aZ HF.out.symm,Be.out⟩
   |false=>
    rw[h] at HI aT;have HF:Hid (cY c=(eZ.drop 3).any fun r=>jI c r.1 r.2):=hid (by rw[aT];rfl);clear h hF aT hk;go_wp2_with fail;refine(HI.out _).mono ?_;rintro e w' ⟨rfl,rfl⟩;go_wp2_with fail;go_roundw;case rel=>exact⟨3,rfl,by omega,HF,Be⟩
    case measure=>simp[intOf]
  ·have hx:=VI;have HI:=hid (fun w=>dG c 257 303 257 303 rfl rfl w);have aT:cY c=(jI c 257 303||(eZ.drop 4).any fun r=>jI c r.1 r.2):=hF.out;have Be:=hid (dR.out.alloc dR.out.size (.cells #[.int .i64 257,.int .i64 303] 238));cases h:jI c 257 303 with
   |true=>rw[h] at HI aT;have HF:Hid (cY c=true):=hid (by rw[aT];rfl);clear h hF aT hk;go_wp2_with fail;refine(HI.out _).mono ?_;rintro e w' ⟨rfl,rfl⟩;go_wp2_with fail;go_ret;exact⟨aZ HF.out.symm,Be.out⟩
   |false=>
    rw[h] at HI aT;have HF:Hid (cY c=(eZ.drop 4).any fun r=>jI c r.1 r.2):=hid (by rw[aT];rfl);clear h hF aT hk;go_wp2_with fail;refine(HI.out _).mono ?_;rintro e w' ⟨rfl,rfl⟩;go_wp2_with fail;go_roundw;case rel=>exact⟨4,rfl,by omega,HF,Be⟩
    case measure=>simp[intOf]
  ·have hx:=VJ;have HI:=hid (fun w=>dG c 768 879 768 879 rfl rfl w);have aT:cY c=(jI c 768 879||(eZ.drop 5).any fun r=>jI c r.1 r.2):=hF.out;have Be:=hid (dR.out.alloc dR.out.size (.cells #[.int .i64 768,.int .i64 879] 238));cases h:jI c 768 879 with
   |true=>rw[h] at HI aT;have HF:Hid (cY c=true):=hid (by rw[aT];rfl);clear h hF aT hk;go_wp2_with fail;refine(HI.out _).mono ?_;rintro e w' ⟨rfl,rfl⟩;go_wp2_with fail;go_ret;exact⟨aZ HF.out.symm,Be.out⟩
   |false=>
    rw[h] at HI aT;have HF:Hid (cY c=(eZ.drop 5).any fun r=>jI c r.1 r.2):=hid (by rw[aT];rfl);clear h hF aT hk;go_wp2_with fail;refine(HI.out _).mono ?_;rintro e w' ⟨rfl,rfl⟩;go_wp2_with fail;go_roundw;case rel=>exact⟨5,rfl,by omega,HF,Be⟩
    case measure=>simp[intOf]
  ·have hx:=VK;have HI:=hid (fun w=>dG c 945 969 945 969 rfl rfl w);have aT:cY c=(jI c 945 969||(eZ.drop 6).any fun r=>jI c r.1 r.2):=hF.out;have Be:=hid (dR.out.alloc dR.out.size (.cells #[.int .i64 945,.int .i64 969] 238));cases h:jI c 945 969 with
   |true=>rw[h] at HI aT;have HF:Hid (cY c=true):=hid (by rw[aT];rfl);clear h hF aT hk;go_wp2_with fail;refine(HI.out _).mono ?_;rintro e w' ⟨rfl,rfl⟩;go_wp2_with fail;go_ret;exact⟨aZ HF.out.symm,Be.out⟩
   |false=>
    rw[h] at HI aT;have HF:Hid (cY c=(eZ.drop 6).any fun r=>jI c r.1 r.2):=hid (by rw[aT];rfl);clear h hF aT hk;go_wp2_with fail;refine(HI.out _).mono ?_;rintro e w' ⟨rfl,rfl⟩;go_wp2_with fail;go_roundw;case rel=>exact⟨6,rfl,by omega,HF,Be⟩
    case measure=>simp[intOf]
  ·have hx:=VL;have HI:=hid (fun w=>dG c 1072 1119 1072 1119 rfl rfl w);have aT:cY c=(jI c 1072 1119||(eZ.drop 7).any fun r=>jI c r.1 r.2):=hF.out;have Be:=hid (dR.out.alloc dR.out.size (.cells #[.int .i64 1072,.int .i64 1119] 238));cases h:jI c 1072 1119 with
   |true=>rw[h] at HI aT;have HF:Hid (cY c=true):=hid (by rw[aT];rfl);clear h hF aT hk;go_wp2_with fail;refine(HI.out _).mono ?_;rintro e w' ⟨rfl,rfl⟩;go_wp2_with fail;go_ret;exact⟨aZ HF.out.symm,Be.out⟩
   |false=>
    rw[h] at HI aT;have HF:Hid (cY c=(eZ.drop 7).any fun r=>jI c r.1 r.2):=hid (by rw[aT];rfl);clear h hF aT hk;go_wp2_with fail;refine(HI.out _).mono ?_;rintro e w' ⟨rfl,rfl⟩;go_wp2_with fail;go_roundw;case rel=>exact⟨7,rfl,by omega,HF,Be⟩
    case measure=>simp[intOf]
  ·have hx:=VM;have HI:=hid (fun w=>dG c 12353 12438 12353 12438 rfl rfl w);have aT:cY c=(jI c 12353 12438||(eZ.drop 8).any fun r=>jI c r.1 r.2):=hF.out;have Be:=hid (dR.out.alloc dR.out.size (.cells #[.int .i64 12353,.int .i64 12438] 238));cases h:jI c 12353 12438 with
   |true=>rw[h] at HI aT;have HF:Hid (cY c=true):=hid (by rw[aT];rfl);clear h hF aT hk;go_wp2_with fail;refine(HI.out _).mono ?_;rintro e w' ⟨rfl,rfl⟩;go_wp2_with fail;go_ret;exact⟨aZ HF.out.symm,Be.out⟩
   |false=>
    rw[h] at HI aT;have HF:Hid (cY c=(eZ.drop 8).any fun r=>jI c r.1 r.2):=hid (by rw[aT];rfl);clear h hF aT hk;go_wp2_with fail;refine(HI.out _).mono ?_;rintro e w' ⟨rfl,rfl⟩;go_wp2_with fail;go_roundw;case rel=>exact⟨8,rfl,by omega,HF,Be⟩
    case measure=>simp[intOf]
  ·have hx:=VN;have HI:=hid (fun w=>dG c 12449 12538 12449 12538 rfl rfl w);have aT:cY c=(jI c 12449 12538||(eZ.drop 9).any fun r=>jI c r.1 r.2):=hF.out;have Be:=hid (dR.out.alloc dR.out.size (.cells #[.int .i64 12449,.int .i64 12538] 238));cases h:jI c 12449 12538 with
   |true=>rw[h] at HI aT;have HF:Hid (cY c=true):=hid (by rw[aT];rfl);clear h hF aT hk;go_wp2_with fail;refine(HI.out _).mono ?_;rintro e w' ⟨rfl,rfl⟩;go_wp2_with fail;go_ret;exact⟨aZ HF.out.symm,Be.out⟩
   |false=>
    rw[h] at HI aT;have HF:Hid (cY c=(eZ.drop 9).any fun r=>jI c r.1 r.2):=hid (by rw[aT];rfl);clear h hF aT hk;go_wp2_with fail;refine(HI.out _).mono ?_;rintro e w' ⟨rfl,rfl⟩;go_wp2_with fail;go_roundw;case rel=>exact⟨9,rfl,by omega,HF,Be⟩
    case measure=>simp[intOf]
  ·have hx:=VO;have HI:=hid (fun w=>dG c 19968 40959 19968 40959 rfl rfl w);have aT:cY c=(jI c 19968 40959||(eZ.drop 10).any fun r=>jI c r.1 r.2):=hF.out;have Be:=hid (dR.out.alloc dR.out.size (.cells #[.int .i64 19968,.int .i64 40959] 238));cases h:jI c 19968 40959 with
   |true=>rw[h] at HI aT;have HF:Hid (cY c=true):=hid (by rw[aT];rfl);clear h hF aT hk;go_wp2_with fail;refine(HI.out _).mono ?_;rintro e w' ⟨rfl,rfl⟩;go_wp2_with fail;go_ret;exact⟨aZ HF.out.symm,Be.out⟩
   |false=>
    rw[h] at HI aT;have HF:Hid (cY c=(eZ.drop 10).any fun r=>jI c r.1 r.2):=hid (by rw[aT];rfl);clear h hF aT hk;go_wp2_with fail;refine(HI.out _).mono ?_;rintro e w' ⟨rfl,rfl⟩;go_wp2_with fail;go_roundw;case rel=>exact⟨10,rfl,by omega,HF,Be⟩
    case measure=>simp[intOf]
  ·have hx:=RO;have HI:=hid (fun w=>dG c 44032 55203 44032 55203 rfl rfl w);have aT:cY c=(jI c 44032 55203||(eZ.drop 11).any fun r=>jI c r.1 r.2):=hF.out;have Be:=hid (dR.out.alloc dR.out.size (.cells #[.int .i64 44032,.int .i64 55203] 238));cases h:jI c 44032 55203 with
   |true=>rw[h] at HI aT;have HF:Hid (cY c=true):=hid (by rw[aT];rfl);clear h hF aT hk;go_wp2_with fail;refine(HI.out _).mono ?_;rintro e w' ⟨rfl,rfl⟩;go_wp2_with fail;go_ret;exact⟨aZ HF.out.symm,Be.out⟩
   |false=>
    rw[h] at HI aT;have HF:Hid (cY c=(eZ.drop 11).any fun r=>jI c r.1 r.2):=hid (by rw[aT];rfl);clear h hF aT hk;go_wp2_with fail;refine(HI.out _).mono ?_;rintro e w' ⟨rfl,rfl⟩;go_wp2_with fail;go_roundw;case rel=>exact⟨11,rfl,by omega,HF,Be⟩
    case measure=>simp[intOf]
  ·have hx:=RP;have HI:=hid (fun w=>dG c 127744 128511 127744 128511 rfl rfl w);have aT:cY c=(jI c 127744 128511||(eZ.drop 12).any fun r=>jI c r.1 r.2):=hF.out;have Be:=hid (dR.out.alloc dR.out.size (.cells #[.int .i64 127744,.int .i64 128511] 238));cases h:jI c 127744 128511 with
   |true=>rw[h] at HI aT;have HF:Hid (cY c=true):=hid (by rw[aT];rfl);clear h hF aT hk;go_wp2_with fail;refine(HI.out _).mono ?_;rintro e w' ⟨rfl,rfl⟩;go_wp2_with fail;go_ret;exact⟨aZ HF.out.symm,Be.out⟩
   |false=>
    rw[h] at HI aT;have HF:Hid (cY c=(eZ.drop 12).any fun r=>jI c r.1 r.2):=hid (by rw[aT];rfl);clear h hF aT hk;go_wp2_with fail;refine(HI.out _).mono ?_;rintro e w' ⟨rfl,rfl⟩;go_wp2_with fail;go_roundw;case rel=>exact⟨12,rfl,by omega,HF,Be⟩
    case measure=>simp[intOf]
  ·have HF:Hid (cY c=false):=hid hF.out;clear hF hk;go_wp2_with fail;go_ret;exact⟨aZ HF.out.symm,dR.out⟩
theorem afH {a b:Value} (h:a=b):Ending.returned a= .returned b:=by rw[h]
def Iv (c:Nat):Value:= .tuple #[.string (aA (lG c).1),.int .i64 ((lG c).2:Int)]
theorem Ov (c:Nat) (hc:eA c) (w:World):Calls Tryz.prog 217 #[.int .i64 (c:Int)] w fun e w'=>e= .returned (Iv c)∧Below w.heap.size w w':=by
 have HO:=hid (fun w=>RJ c hc w);have HG:=hid (fun w=>Vx c w);have HV:=hid (fun w=>RQ c w);have HS:=hid (fun w=>iZ c hc w);have he:=cC (dD c);by_cases h1:dD c=[];rw[h1] at HO he;cases h2:Hk c;rw[h2] at HG;cases h3:cY c;have hM:Hid (Iv c= .tuple #[.string (aA []),.int .i64 0]):=hid (by unfold Iv lG;simp[h1,h2,h3]);rw[h3] at HV;clear h1 h2 h3;have tg:=Tg.k 2;rotate_left;have hM:Hid (Iv c= .tuple #[.string (aA (kQ c)),.int .i64 1]):=hid (by unfold Iv lG;simp[h1,h2,h3]);rw[h3] at HV;clear h1 h2 h3;have tg:=Tg.k 1;rotate_left;have hM:Hid (Iv c= .tuple #[.string (aA []),.int .i64 3]):=hid (by unfold Iv lG;simp[h1,h2]);rw[h2] at HG;clear h1 h2;have tg:=Tg.k 0;rotate_left;have hM:Hid (Iv c= .tuple #[.string (aA (dD c)),.int .i64 2]):=hid (by unfold Iv lG;simp[h1]);replace he:(aA (dD c)).toList.isEmpty=false:=by rw[he];cases h:dD c with|nil=>exact absurd h h1|cons a b=>rfl
 clear h1;generalize dD c=o at*;have tg:=Tg.k 3;all_goals
  go_enter Tryz.func217,Tryz.ntmps217;go_wp2_with fail;refine(HO.out _).mono ?_;rintro e w' ⟨rfl,rfl⟩;go_wp2_with fail;first
  |have:Tg 3:=tg
  |refine(HG.out _).mono ?_;rintro e w' ⟨rfl,rfl⟩;go_wp2_with fail;first
   |have:Tg 0:=tg
   |refine(HV.out _).mono ?_;rintro e w1 ⟨rfl,hb⟩;go_wp2_with fail;first
    |have:Tg 1:=tg;refine(HS.out _).mono ?_;rintro e w' ⟨rfl,rfl⟩;go_wp2_with fail
    |skip
  go_ret2;first
  |(first|have:Tg 0:=tg|have:Tg 3:=tg)
   exact⟨afH hM.out.symm,Below.refl _ _⟩
  |exact⟨afH hM.out.symm,hb⟩
theorem RR (c:UInt8) (t:List UInt8):qD (c::t)=(decide (c.toNat < 128)&&qD t):=rfl
theorem RS (s:List UInt8) (w:World) (hs:s.length≤4000000000):Calls Tryz.prog 230 #[.string (aA s)] w fun e w'=>e= .returned (.bool (qD s))∧w=w':=by
 have HZ:=hid (aD s);go_enter Tryz.func230,Tryz.ntmps230;go_wp2_with fail;go_loopw [6] (fun i wr=>∃k:Nat,i= .int .i64 (k:Int)∧k≤s.length∧Hid (qD s=qD (s.drop k))∧w=wr) (fun i _=>s.length - (intOf i).toNat);case atStart=>exact⟨0,rfl,Nat.zero_le _,hid rfl,rfl⟩
 case round=>
  obtain⟨k,rfl,hk,hF,rfl⟩:=hrel;by_cases bC:k < s.length
  ·have jZ:k < (aA s).size:=by rw[HZ.out];exact bC
   obtain⟨c,hd,hg⟩:=iN bC;have hc:=hg jZ;have iF:c.toNat < 256:=c.toNat_lt;have aT:=hF.out;rw[hd,RR] at aT;clear hd hg hF;by_cases h8:c.toNat < 128
   ·have HF:Hid (qD s=qD (s.drop (k+1))):=hid (by rw[aT];simp[h8]);clear aT;go_wp2_with fail;go_roundw;case rel=>exact⟨k+1,by go_num,by omega,HF,trivial⟩
    case measure=>simp[intOf];omega
   ·have HF:Hid (qD s=false):=hid (by rw[aT];simp[h8]);clear aT;go_wp2_with fail;go_ret;exact⟨aZ HF.out.symm,rfl⟩
  ·obtain rfl:k=s.length:=by omega
   have HF:Hid (qD s=true):=hid (by rw[hF.out,List.drop_length];rfl);have hz:=HZ.out;clear hF;go_wp2_with fail;go_ret;exact⟨aZ HF.out.symm,rfl⟩
def DC:Bool→List Nat→Bool
 |b,[]=>b
 |b,c::t=>if(lG c).2≠1∨c=46 then false else DC (b||decide (127 < c)) t
theorem Yy:∀(l:List Nat) (b:Bool),DC b l=((l.all fun c=>(lG c).2==1&&c !=46)&&(b||l.any fun c=>decide (0x7f < c))):=by
 intro l;induction l with
 |nil=>intro b;simp[DC]
 |cons c t ih=>
  intro b;rw[DC];by_cases h:(lG c).2≠1∨c=46
  ·rw[if_pos h];simp only[List.all_cons];have:((lG c).2==1&&c !=46)=false:=by
    rw[Bool.and_eq_false_iff];rcases h with h|h;·left;simpa using h
    ·right;simpa using h
   rw[this];simp
  ·rw[if_neg h,ih];have:((lG c).2==1&&c !=46)=true:=by simp only[not_or,Decidable.not_not] at h;rw[Bool.and_eq_true];exact⟨by simpa using h.1,by simpa using h.2⟩
   simp only[List.all_cons,List.any_cons,this,Bool.true_and,Bool.or_assoc]
theorem Ow (a:Nat) (t:List Nat):nX (a::t)=(!jI a 0x300 0x36f&&DC false (a::t)):=by rw[Yy];simp[nX,Bool.and_assoc]
theorem Iw (v:Value) (l:List Nat) (w:World) (hv:tX w v l) (hl:l.length≤4000000000) (hs:∀c∈l,eA c):Calls Tryz.prog 232 #[v] w fun e w'=>e= .returned (.bool (nX l))∧Below w.heap.size w w':=by
 by_cases eG:l=[];·subst eG;obtain⟨a,c,rfl,hc⟩:=hv.len;go_enter Tryz.func232,Tryz.ntmps232;go_wp2_with fail;go_ret;exact⟨rfl,Below.refl _ _⟩
 ·obtain⟨g,off,c,rfl,hc,aW⟩:=hv.form eG;have h0:0 < l.length:=List.length_pos_iff.mpr eG;have hc0:=aW 0 h0;rw[Nat.add_zero] at hc0;have HL:Hid (nX l=(!jI l[0] 0x300 0x36f&&DC false l)):=hid (by
   cases l with
   |nil=>exact absurd rfl eG
   |cons a t=>exact Ow a t)
  have hz:((l.length:Int)==0)=false:=by simp;omega
  have HI:=hid (fun w=>dG l[0] 768 879 768 879 rfl rfl w);have HV:=hid hv;have HS:=hid hs;have HC:=hid aW;clear aW eG hv hs;cases GY:jI l[0] 768 879 with
  |true=>rw[GY] at HI HL;have HF:Hid (nX l=false):=hid (by rw[HL.out];rfl);clear GY HL;generalize l[0]=x at*;go_enter Tryz.func232,Tryz.ntmps232;go_wp2_with fail;refine(HI.out _).mono ?_;rintro e w' ⟨rfl,rfl⟩;go_wp2_with fail;go_ret;exact⟨aZ HF.out.symm,Below.refl _ _⟩
  |false=>
   rw[GY] at HI HL;have HF:Hid (nX l=DC false l):=hid (by rw[HL.out];rfl);clear GY HL;generalize l[0]=x at*;go_enter Tryz.func232,Tryz.ntmps232;go_wp2_with fail;refine(HI.out _).mono ?_;rintro e w' ⟨rfl,rfl⟩;go_wp2_with fail;go_loopw [3,19] (fun b i wr=>∃(k:Nat) (q:Bool),b= .bool q∧i= .int .i64 (k:Int)∧k≤l.length∧Hid (nX l=DC q (l.drop k))∧Hid (Below w.heap.size w wr)) (fun _ i _=>l.length - (intOf i).toNat);case atStart=>exact⟨0,false,rfl,rfl,Nat.zero_le _,HF,hid (Below.refl _ _)⟩
   case round=>
    obtain⟨k,q,rfl,rfl,hk,hF,dR⟩:=hrel;by_cases bC:k < l.length
    ·have aW:=((dR.out.cell (p:=⟨g,off+k,none⟩) (by
      show g < w.heap.size;have h1:=HC.out k bC;rcases Nat.lt_or_ge g w.heap.size with h|h;·exact h
      ·simp[World.cell?,Array.getElem?_eq_none h] at h1)).trans (HC.out k bC))
     have aT:=hF.out;rw[List.drop_eq_getElem_cons bC,DC] at aT;have HM:=hid (fun w=>Ov l[k] (HS.out l[k] (List.getElem_mem bC)) w);generalize l[k]=y at*;unfold Iv at HM;clear hF;by_cases hm:(lG y).2=1
     ·rw[hm] at HM;by_cases VP:y=46
      ·rw[if_pos (.inr VP)] at aT;have HF:=hid aT;have hyI:((y:Int)==46)=true:=by rw[VP];rfl
       clear aT hm VP;generalize (lG y).1=ms at*;go_wp2_with fail;refine(HM.out _).mono ?_;rintro e w1 ⟨rfl,hb⟩;have Cn:=aR dR hb;clear hb;go_wp2_with fail;go_ret;exact⟨aZ HF.out.symm,Cn.out⟩
      ·rw[if_neg (by simp only[not_or,Decidable.not_not];exact⟨hm,VP⟩)] at aT;have hyI:((y:Int)==46)=false:=by simp;omega
       have hd:decide (127 < y)=decide (127 < (y:Int)):=by rw[Bool.eq_iff_iff];simp;omega
       rw[hd] at aT;have HF:=hid aT;clear aT hm VP hd;generalize (lG y).1=ms at*;cases q with
       |true=>
        go_wp2_with fail;refine(HM.out _).mono ?_;rintro e w1 ⟨rfl,hb⟩;have Cn:=aR dR hb;clear hb;go_wp2_with fail;go_roundw;case rel=>exact⟨k+1,true,rfl,by go_num,by omega,HF,Cn⟩
        case measure=>simp[intOf];omega
       |false=>
        go_wp2_with fail;refine(HM.out _).mono ?_;rintro e w1 ⟨rfl,hb⟩;have Cn:=aR dR hb;clear hb;go_wp2_with fail;go_roundw;case rel=>exact⟨k+1,decide (127 < (y:Int)),rfl,by go_num,by omega,HF,Cn⟩
        case measure=>simp[intOf];omega
     ·rw[if_pos (.inl hm)] at aT;have HF:=hid aT;have hmI:(((lG y).2:Int)==1)=false:=by simp;omega
      clear aT hm;generalize (lG y).1=ms at*;generalize (lG y).2=mn at*;go_wp2_with fail;refine(HM.out _).mono ?_;rintro e w1 ⟨rfl,hb⟩;have Cn:=aR dR hb;clear hb;go_wp2_with fail;go_ret;exact⟨aZ HF.out.symm,Cn.out⟩
    ·obtain rfl:k=l.length:=by omega
     have HF:Hid (nX l=q):=hid (by rw[hF.out,List.drop_length];rfl);clear hF;go_wp2_with fail;go_ret;exact⟨aZ HF.out.symm,dR.out⟩
def agL (c:UInt8):Bool:=c==9||c==10||c==13
theorem Ox (c:UInt8) (t:List UInt8):lO (c::t)=if agL c then lO t else c::lO t:=by unfold lO agL;rw[List.filter_cons];cases h:(c==9||c==10||c==13)<;>simp
theorem lU (c:UInt8) (n:Nat) (hn:n < 256):((c.toNat:Int)==(n:Int))=(c==UInt8.ofNat n):=by rw[Bool.eq_iff_iff,beq_iff_eq,beq_iff_eq,←UInt8.toNat_inj];simp;omega
theorem Oy (l:List UInt8) (w:World) (hl:l.length≤1000000000):Calls Tryz.prog 55 #[.string (aA l)] w fun e w'=>e= .returned (.string (aA (lO l)))∧Below w.heap.size w w':=by
 have HZ:=hid (aD l);have hn1:(aA l).size≤1000000000:=by rw[aD];exact hl
 obtain⟨i0,hi,vO,rX,qL⟩:=info_parts zJ;go_enter Tryz.func55,Tryz.ntmps55;go_wp2_with (at_make;refine wpList_make_own w rfl _ _ 25 rfl w.heap.size 5 i0 (.int .u8 0) 1 Tryz.underlying25 hi vO rX .i64 .i64 _ (aA l).size rfl rfl rfl (by rw[qL];omega) (by unfold maxLen;omega) (Nat.le_refl _) ?_;intro w1 dJ Ix);have eN:Below w.heap.size w w1:=(Below.refl _ _).grown Ix (Nat.le_refl _) (fun k hk=>by cases hk);have Iy:fC w1 w.heap.size (.slice (some ⟨w.heap.size,0,none⟩) 0 (aA l).size) []:=dJ;clear dJ Ix hi vO rX qL;go_loopw [3,11] (fun v i wr=>∃(x:List UInt8) (k:Nat),fC wr w.heap.size v x∧i= .int .i64 (k:Int)∧k≤l.length∧x.length≤k∧Hid (lO l=x++lO (l.drop k))∧Hid (Below w.heap.size w wr)) (fun _ i _=>l.length - (intOf i).toNat);case atStart=>exact⟨[],0,Iy,rfl,Nat.zero_le _,Nat.le_refl _,hid rfl,hid eN⟩
 case round=>
  clear Iy eN;obtain⟨x,k,bE,rfl,hk,hx,hF,HB⟩:=hrel;have iW:=HB.out.size;by_cases bC:k < l.length
  ·have jZ:k < (aA l).size:=by rw[HZ.out];exact bC
   obtain⟨c,hd,hg⟩:=iN bC;have hc:=hg jZ;have iF:c.toNat < 256:=c.toNat_lt;have aT:=hF.out;rw[hd,Ox] at aT;clear hd hg hF;have e9:=lU c 9 (by decide);have e10:=lU c 10 (by decide);have e13:=lU c 13 (by decide);have Oz:agL c=((c==9)||(c==10)||(c==13)):=rfl;have e9':((c.toNat:Int)==9)=(c==9):=e9;have apN:((c.toNat:Int)==10)=(c==10):=e10;have apO:((c.toNat:Int)==13)=(c==13):=e13;have Yz:x.length≤4000000000:=by omega
   clear e9 e10 e13;generalize (c==9)=b9 at*;generalize (c==10)=XH at*;generalize (c==13)=b13 at*;cases b9;case true=>
    rw[Oz] at aT;have HF:Hid (lO l=x++lO (l.drop (k+1))):=hid aT;clear aT Oz;go_wp2_with fail;go_roundw;case rel=>exact⟨x,k+1,bE,by go_num,by omega,by omega,HF,HB⟩
    case measure=>simp[intOf];omega
   cases XH;case true=>
    rw[Oz] at aT;have HF:Hid (lO l=x++lO (l.drop (k+1))):=hid aT;clear aT Oz;go_wp2_with fail;go_roundw;case rel=>exact⟨x,k+1,bE,by go_num,by omega,by omega,HF,HB⟩
    case measure=>simp[intOf];omega
   cases b13;case true=>
    rw[Oz] at aT;have HF:Hid (lO l=x++lO (l.drop (k+1))):=hid aT;clear aT Oz;go_wp2_with fail;go_roundw;case rel=>exact⟨x,k+1,bE,by go_num,by omega,by omega,HF,HB⟩
    case measure=>simp[intOf];omega
   rw[Oz] at aT;have HF:Hid (lO l=(x++[c])++lO (l.drop (k+1))):=hid (by rw[aT];simp);clear aT Oz;go_wp2_with (at_builtin;refine cJ wr w.heap.size _ x c rfl rfl _ _ rfl rfl bE rfl Yz iW ?_;intro v1 w5 dJ eN);go_roundw;case rel=>exact⟨x++[c],k+1,dJ,by go_num,by omega,by simp;omega,HF,hid (HB.out.trans (eN.mono (Nat.le_refl _)))⟩
   case measure=>simp[intOf];omega
  ·obtain rfl:k=l.length:=by omega
   have HF:Hid (lO l=x):=hid (by rw[hF.out,List.drop_length];simp[lO]);have G3:=oE bE;clear hF;go_wp2_with fail;go_ret;exact⟨by rw[HF.out];rfl,HB.out⟩
theorem RT {j d bJ:Nat} (h:d < dV j bJ):jM j d bJ=[qA d]:=by rw[jM,dif_pos h]
theorem OA {j d bJ:Nat} (h:¬d < dV j bJ):jM j d bJ=qA (dV j bJ+(d - dV j bJ) % (36 - dV j bJ))::jM (j+1) ((d - dV j bJ) / (36 - dV j bJ)) bJ:=by rw[jM,dif_neg h]
theorem RU (v:Value) (l:List UInt8) (d bJ:Nat) (w:World) (base:Nat) (hv:fC w base v l) (rC:base≤w.heap.size) (hl:l.length≤1000000000) (hd:d≤900000000) (hb:bJ≤1000000000):
 Calls Tryz.prog 245 #[v,.int .i64 (d:Int),.int .i64 (bJ:Int)] w fun e w'=>∃v',e= .returned v'∧fC w' base v' (l++jM 0 d bJ)∧Below base w w':=by
 have HV:=hid hv;clear hv;go_enter Tryz.func245,Tryz.ntmps245;go_wp2;go_loopw [0,1,7] (fun a b i wr=>∃(m:List UInt8) (x j:Nat),fC wr base a m∧b= .int .i64 (x:Int)∧i= .int .i64 (j:Int)∧m.length≤l.length+j∧j+x≤900000000∧Hid (l++jM 0 d bJ=m++jM j x bJ)∧Below base w wr) (fun _ b _ _=>(intOf b).toNat);case atStart=>exact⟨l,d,0,HV.out,rfl,rfl,by omega,by omega,hid rfl,Below.refl _ _⟩
 case round=>
  obtain⟨m,x,j,bE,rfl,rfl,hm,hj,hf,dB⟩:=hrel;have abX:=dB.size;have HB:=hid (fun w=>Iu j bJ (by omega) hb w);have eN:=rH j bJ;have dE:=xL j bJ;have dR:=hid dB;clear dB;by_cases bC:x < dV j bJ;·have nW:=hf.out;rw[RT bC] at nW;have HF:=hid nW;have HD:=hid (fun w=>It x (by omega) w);clear hf nW;generalize dV j bJ=B at*;go_wp2_with fail;refine(HB.out _).mono ?_;rintro e w' ⟨rfl,rfl⟩;go_wp2_with fail;refine(HD.out _).mono ?_;rintro e w' ⟨rfl,rfl⟩;go_wp2_with (at_builtin;refine cJ wr base _ m (qA x) rfl rfl _ _ rfl rfl bE rfl (by omega) (by omega) ?_;intro v1 w1 dJ eN);go_ret;exact⟨_,rfl,by rw[HF.out];exact dJ,dR.out.trans eN⟩
  ·have nW:=hf.out;rw[OA bC] at nW;have hdv:=Hh eN dE (by omega:dV j bJ≤x);generalize dV j bJ=B at*;obtain⟨y,hy⟩:∃y,y=x - B:=⟨_,rfl⟩;obtain⟨u,hu⟩:∃u,u=36 - B:=⟨_,rfl⟩;rw[←hy,←hu] at nW hdv;have hy':(x:Int) - (B:Int)=(y:Int):=by omega
   have hu':36 - (B:Int)=(u:Int):=by omega
   have anB:y % u < u:=Nat.mod_lt _ (by omega);have HD:=hid (fun w=>It (B+y % u) (by omega) w);have HF:=hid (show l++jM 0 d bJ=(m++[qA (B+y % u)])++jM (j+1) (y / u) bJ by rw[nW];simp);have anC:y / u≤y:=Nat.div_le_self _ _;obtain⟨r,hr⟩:∃r,r=y % u:=⟨_,rfl⟩;have hr':(y:Int) % (u:Int)=(r:Int):=by rw[hr];rfl
   have hrq:(B:Int)+(r:Int)=((B+r:Nat):Int):=by simp
   rw[←hr] at HD anB HF;obtain⟨t,ht⟩:∃t,t=y / u:=⟨_,rfl⟩;have hq':(y:Int) / (u:Int)=(t:Int):=by rw[ht];rfl
   rw[←ht] at hdv anC HF;have HD':Hid (∀w,Calls Tryz.prog 252 #[.int .i64 ((B:Int)+(r:Int))] w fun e w'=>e= .returned (.int .u8 ((qA (B+r)).toNat:Int))∧w=w'):=hid (by rw[hrq];exact HD.out);have hyB:y≤x:=by omega
   have hu1:10≤u:=by omega
   have B8:B≤x:=by omega
   clear hf nW hr hy hu bC hrq ht;go_wp2_with fail;refine(HB.out _).mono ?_;rintro e w' ⟨rfl,rfl⟩;go_wp2_with fail;refine(HD'.out _).mono ?_;rintro e w' ⟨rfl,rfl⟩;go_wp2_with (at_builtin;refine cJ wr base _ m (qA (B+r)) rfl rfl _ _ rfl rfl bE rfl (by omega) (by omega) ?_;intro v1 w1 dJ eN);go_roundw;case rel=>exact⟨_,t,j+1,dJ,by first|rfl|(rw[IntWalk.wrap64_in _ (by omega)]),by go_num,by simp;omega,by omega,HF,dR.out.trans eN⟩
   case measure=>simp[intOf];omega
end Go.Proofs.YtmgmclkplepapaaGreatDoor
