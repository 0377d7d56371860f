/- Joined texts. -/
import Derived.Laws.BytesString
import Derived.Laws.Cells
import Derived.Test.YtlhofpglndhfaaaGreatDoorS201
import Derived.Test.YtlhofpglndhfaaaGreatDoorS217
set_option linter.unusedVariables false
set_option linter.unusedSimpArgs false
namespace Go.Proofs.YtlhofpglndhfaaaGreatDoor
open Go.RowKit
theorem Wn:EInfo Tryz.prog 89 5 (.int .u8 0) 1 1:=⟨Tryz.underlying89,by kernel_rfl,rfl,by omega,by omega⟩
theorem Te{w:World}{base g n c:Nat}{e:TypeId}{xs:List Value}(h:w.ownsRow base e 1 (.slice (some ⟨g,0,none⟩) n c) n xs):Mine w g xs:=by
 obtain⟨hl,⟨h1, -⟩|⟨g',cap,cur,hv,hg,hh,hn,hm,hsz,hx⟩⟩:=h
 ·cases h1
 ·cases hv;refine⟨?_,λ j v hv=>?_,λ j=>?_⟩
  ·rcases al_Nat_lt_or_ge g w.heap.size with hlt|hge
   ·exact hlt
   ·rw[fV hge]at hh;cases hh
  ·subst hx;rw[cN]at hv;split at hv
   ·simp only[World.cell?,hh];simpa using hv
   ·cases hv
  ·simp[World.frozen?,hh]
def vH(x n k:Nat):List Value:=(List.range n).map λ j=>Value.int .u8 (if j<k then ((x / 256 ^ j % 256:Nat):Int)else 0)
theorem Lh(x n k:Nat)(hk:k<n):(vH x n k).set k (.int .u8 (x / 256 ^ k % 256:Nat))=vH x n (k+1):=by
 apply dL;intro j;unfold vH;by_cases h:j=k
 ·subst h;rw[aW (by simpa using hk),aZ,gC hk];simp
 ·rw[gU (by omega),aZ,aZ];by_cases hj:j<n
  ·rw[gC hj];simp only[dI,Option.some.injEq,Value.int.injEq,true_and];by_cases h2:j<k
   ·rw[if_pos h2,if_pos (by omega)]
   ·rw[if_neg h2,if_neg (by omega)]
  ·rw[bM (by simpa using hj)];rfl
theorem Bg(x n k j:Nat)(hj:j<n):(vH x n k)[j]?=some (.int .u8 (if j<k then ((x / 256 ^ j % 256:Nat):Int)else 0)):=by
 unfold vH;rw[aZ,gC hj];rfl
theorem Qr(x n:Nat):vH x n 0=List.replicate n (.int .u8 0):=by
 apply dL;intro j;by_cases hj:j<n
 ·rw[Bg x n 0 j hj,lM];simp[hj]
 ·unfold vH;rw[bM (by simpa using hj),bM (by simpa using hj)]
def rY(x n:Nat):ByteArray:=((List.range n).map λ j=>((x / 256 ^ j % 256:Nat):Int)).foldl (λ r m=>r.push (UInt8.ofNat m.toNat)) ByteArray.empty
theorem NP(x n g:Nat)(w:World)(hM:Mine w g (vH x n n)):(convert 89 9 (.slice (some ⟨g,0,none⟩) n n)).run Tryz.prog w=.ok (.string (rY x n)) w:=by
 rw[run_convert_bytes_string w _ _ 5 _ _ _ Tryz.underlying89 Tryz.underlying5 Tryz.underlying9];refine run_bytesToString w _ n n _ ?_;rw[run_loadCells w _ n (λ j=>.int .u8 ((x / 256 ^ j % 256:Nat):Int)) (λ j hj=>?_)]
 ·rw[List.map_map];rfl
 ·have:=hM.c j _ (Bg x n n j hj);rw[if_pos hj]at this;have ha:(⟨g,0,none⟩:Addr).add j=⟨g,j,none⟩:=by unfold Addr.add;split<;>simp_all
  rw[ha];exact this
set_option maxHeartbeats 4000000 in
theorem Qs(x n:Nat)(w:World)(hx:x<4294967296)(hn:n≤4):Calls Tryz.prog 159 #[.int .u32 x,.int .i64 n] w λ e w'=>e=.returned (.tuple #[.string (rY x n),.int .i64 0])∧Below w.heap.size w w':=by
 have d4:decide ((4:Int)<n)=false:=by simp;omega
 go_enter Tryz.func159,Tryz.ntmps159
 go_wp2_with (at_make;refine Nq Wn rfl (.tmp 14) (.tmp 14) rfl n (by omega) .i64 .i64 n rfl rfl n rfl rfl ?_;intro w1 hown hb1)
 have M1:Mine w1 w.heap.size (vH x n 0):=by
  rw[Qr];have:=Te hown;have hm:(madeCells (Value.int .u8 0).cells (n * 1)).toList=List.replicate n (.int .u8 0):=by
   have hc:n=0∨n=1∨n=2∨n=3∨n=4:=by omega
   rcases hc with rfl|rfl|rfl|rfl|rfl<;>first|kernel_rfl|simp[madeCells,Value.cells,List.replicate,jZ,Nat.mod_one]
  rw[hm]at this;exact this
 clear hown
 go_loopw [17] (λ i wr=>∃ k:Nat,i=.int .i64 k∧k≤n∧Mine wr w.heap.size (vH x n k)∧Below w.heap.size w wr) (λ i _=>n - (intOf i).toNat)
 case atStart=>exact⟨0,rfl,aD _,M1,hb1⟩
 case round=>
  obtain⟨k,rfl,hk,M,hb⟩:=hrel;clear M1 hb1;by_cases hlt:k<n
  ·have ck:=M.c k _ (Bg x n k k hlt);have gk:=M.g k;have hv:(x:Int) / 2 ^ (8 * k) % 256=((x / 256 ^ k % 256:Nat):Int):=by
    have:(x:Int) / 2 ^ (8 * k)=((x / 256 ^ k:Nat):Int):=by rw[show (256:Nat) ^ k=2 ^ (8 * k)from MG k];simp
    rw[this];rfl
   have HV:=Lib.hid hv;clear hv
   go_wp2_with fail
   go_roundw
   case rel=>exact⟨k+1,by go_num,by omega,by rw[HV.out, ←Lh x n k hlt];exact M.set k _ (by simpa [vH]using hlt),Ec hb (aC _)⟩
   case measure=>simp[intOf];omega
  ·have hkk:k=n:=by omega
   subst hkk;have hcv:=NP x k w.heap.size wr M
   go_wp2_with fail
   go_ret2
   exact⟨rfl,hb⟩
theorem JE:∀ (ns:List Int) (r:ByteArray),(ns.foldl (λ r m=>r.push (UInt8.ofNat m.toNat)) r).size=r.size+ns.length
 |[],r=>rfl
 |m::ns,r=>by
  rw[oV,JE ns,ByteArray.size_push,bJ];omega
theorem yR(x n:Nat):(rY x n).size=n:=by
 unfold rY;rw[JE];simp
end Go.Proofs.YtlhofpglndhfaaaGreatDoor
