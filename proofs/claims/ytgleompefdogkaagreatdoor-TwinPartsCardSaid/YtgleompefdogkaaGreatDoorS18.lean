/- Joined texts. -/
import Derived.Laws.BytesString
import Derived.Laws.Cells
import Derived.Test.YtgleompefdogkaaGreatDoorS1
import Derived.Test.YtgleompefdogkaaGreatDoorS17
set_option linter.unusedVariables false
set_option linter.unusedSimpArgs false
set_option linter.defProp false
namespace Go.Proofs.YtgleompefdogkaaGreatDoor
open Go.RowKit
def We:EInfo Tryz.prog 89 5 (.int .u8 0) 1 1:=⟨Tryz.underlying89,by kernel_rfl,rfl,by omega,by omega⟩
def Tm{w:World}{base g n c:Nat}{e:TypeId}{xs:List Value}(h:w.ownsRow base e 1 (.slice (some ⟨g,0,none⟩) n c) n xs):Mine w g xs:=by
 obtain⟨hl,⟨h1, -⟩|⟨g',cap,cur,hv,hg,hh,hn,hm,hsz,hx⟩⟩:=h
 ·cases h1
 ·cases hv;refine⟨?_,λj v hv=>?_,λj=>?_⟩
  ·rcases al_Nat_lt_or_ge g w.heap.size with hlt|hge
   ·exact hlt
   ·rw[iC hge]at hh;cases hh
  ·subst hx;rw[cL]at hv;split at hv
   ·simp only[World.cell?,hh];simpa using hv
   ·cases hv
  ·simp[World.frozen?,hh]
def wC(x n k:Nat):List Value:=(List.range n).map λj=>Value.int .u8 (if j<k then((x/256 ^ j%256:Nat):Int)else 0)
def Ln(x n k:Nat)(hk:k<n):(wC x n k).set k (.int .u8 (x/256 ^ k%256:Nat))=wC x n (k+1):=by
 apply dC;intro j;unfold wC;by_cases h:j=k
 ·subst h;rw[aT (by simpa using hk),bD,gX hk];simp
 ·rw[gQ (by omega),bD,bD];by_cases hj:j<n
  ·rw[gX hj];simp only[dJ,Option.some.injEq,Value.int.injEq,true_and];by_cases h2:j<k
   ·rw[if_pos h2,if_pos (by omega)]
   ·rw[if_neg h2,if_neg (by omega)]
  ·rw[bO (by simpa using hj)];rfl
def Bx(x n k j:Nat)(hj:j<n):(wC x n k)[j]?=some (.int .u8 (if j<k then((x/256 ^ j%256:Nat):Int)else 0)):=by
 unfold wC;rw[bD,gX hj];rfl
def Qy(x n:Nat):wC x n 0=List.replicate n (.int .u8 0):=by
 apply dC;intro j;by_cases hj:j<n
 ·rw[Bx x n 0 j hj,jJ];simp[hj]
 ·unfold wC;rw[bO (by simpa using hj),bO (by simpa using hj)]
def jH(x n:Nat):ByteArray:=((List.range n).map λj=>((x/256 ^ j%256:Nat):Int)).foldl (λr m=>r.push (UInt8.ofNat m.toNat)) ByteArray.empty
def NY(x n g:Nat)(w:World)(hM:Mine w g (wC x n n)):(convert 89 9 (.slice (some ⟨g,0,none⟩) n n)).run Tryz.prog w=.ok (.string (jH x n)) w:=by
 rw[run_convert_bytes_string w _ _ 5 _ _ _ Tryz.underlying89 Tryz.underlying5 Tryz.underlying9];refine run_bytesToString w _ n n _ ?_;rw[run_loadCells w _ n (λj=>.int .u8 ((x/256 ^ j%256:Nat):Int)) (λj hj=>?_)]
 ·rw[List.map_map];rfl
 ·have:=hM.c j _ (Bx x n n j hj);rw[if_pos hj]at this;have ha:(⟨g,0,none⟩:Addr).add j=⟨g,j,none⟩:=by unfold Addr.add;split<;>simp_all
  rw[ha];exact this
set_option maxHeartbeats 4000000 in
theorem Qz(x n:Nat)(w:World)(hx:x<4294967296)(hn:n<=4):Calls Tryz.prog 106 #[.int .u32 x,.int .i64 n] w λe w'=>e=.returned (.tuple #[.string (jH x n),.int .i64 0])∧Below w.heap.size w w':=by
 have d4:decide ((4:Int)<n)=false:=by simp;omega
 go_enter Tryz.func106,Tryz.ntmps106
 go_wp2_with (at_make;refine Nu We rfl (.tmp 14) (.tmp 14) rfl n (by omega) .i64 .i64 n rfl rfl n rfl rfl ?_;intro w1 hown hb1)
 have M1:Mine w1 w.heap.size (wC x n 0):=by
  rw[Qy];have:=Tm hown;have hm:(madeCells (Value.int .u8 0).cells (n*1)).toList=List.replicate n (.int .u8 0):=by
   have hc:n=0∨n=1∨n=2∨n=3∨n=4:=by omega
   rcases hc with rfl|rfl|rfl|rfl|rfl<;>first|kernel_rfl|simp[madeCells,Value.cells,List.replicate,kA,Nat.mod_one]
  rw[hm]at this;exact this
 clear hown
 go_loopw [17] (λi wr=>∃k:Nat,i=.int .i64 k∧k<=n∧Mine wr w.heap.size (wC x n k)∧Below w.heap.size w wr) (λi _=>n-(intOf i).toNat)
 case atStart=>exact⟨0,rfl,aE _,M1,hb1⟩
 case round=>
  obtain⟨k,rfl,hk,M,hb⟩:=hrel;clear M1 hb1;by_cases hlt:k<n
  ·have ck:=M.c k _ (Bx x n k k hlt);have gk:=M.g k;have hv:(x:Int)/2 ^ (8*k)%256=((x/256 ^ k%256:Nat):Int):=by
    have:(x:Int)/2 ^ (8*k)=((x/256 ^ k:Nat):Int):=by rw[show(256:Nat) ^ k=2 ^ (8*k)from MP k];simp
    rw[this];rfl
   have HV:=Lib.hid hv;clear hv
   go_wp2_with fail
   go_roundw
   case rel=>exact⟨k+1,by go_num,by omega,by rw[HV.out, <-Ln x n k hlt];exact M.set k _ (by simpa [wC]using hlt),EN hb (aC _)⟩
   case measure=>simp[intOf];omega
  ·have hkk:k=n:=by omega
   subst hkk;have hcv:=NY x k w.heap.size wr M
   go_wp2_with fail
   go_ret2
   exact⟨rfl,hb⟩
theorem JK:∀(ns:List Int) (r:ByteArray),(ns.foldl (λr m=>r.push (UInt8.ofNat m.toNat)) r).size=r.size+ns.length
 |[],r=>rfl
 |m::ns,r=>by
  rw[oY,JK ns,ByteArray.size_push,bN];omega
def tW(x n:Nat):(jH x n).size=n:=by
 unfold jH;rw[JK];simp
end Go.Proofs.YtgleompefdogkaaGreatDoor
