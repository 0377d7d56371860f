import Derived.Laws.BytesString
import Derived.Laws.Cells
import Derived.Test.YtiaekocjeinkjaaGreatDoorS13
set_option linter.all false
namespace Go.Proofs.YtiaekocjeinkjaaGreatDoor
open Go.Proofs.Tryz
open Go.RowKit
def XE:nu Tryz.prog 39 5 (.int .u8 0) 1 1:=⟨underlying39,by kernel_rfl,R,oT,oT⟩
def UF{w:World}{base g n c:Nat}{e:TypeId}{f:List Value}(h:w.ownsRow base e 1 (.slice (some ⟨g,0,none⟩) n c) n f):gp w g f:=by
 obtain⟨r,⟨i, -⟩|⟨p,l,m,a,q,b,t,s,o,k⟩⟩:=h
 .cases i
 cases a;refine⟨?_,λj v a=>?_,λj=>?_⟩
 .rcases fb g w.heap.size with d|hge
  .exact d
  rw[iE hge]at b;cases b
 .subst k;rw[cU]at a;split at a
  .simp only[World.cell?,b];simpa using a
  cases a
 simp[World.frozen?,b]
def wC(x n k:Nat):List Value:=(List.range n).map λj=>Value.int .u8 (if j<k then((x/256 ^ j%256:Nat):Int)else 0)
def LX(x n k:Nat)(c:k<n):(wC x n k).set k (.int .u8 (x/256 ^ k%256:Nat))=wC x n (k+1):=by
 apply dD;intro j;unfold wC;by_cases h:j=k
 .subst h;rw[aZ (sU c),aX,eZ c];simp
 rw[kX oT,aX,aX];by_cases b:j<n
 .rw[eZ b];simp only[dF,jc,Value.int.injEq,true_and];by_cases a:j<k
  .rw[aa a,aa oT]
  rw[dZ a,dZ oT]
 rw[bE (sU b)];rfl
def BG(x n k j:Nat)(a:j<n):(wC x n k)[j]?=some (.int .u8 (if j<k then((x/256 ^ j%256:Nat):Int)else 0)):=by
 unfold wC;rw[aX,eZ a];rfl
def Rw(x n:Nat):wC x n 0=List.replicate n (.int .u8 0):=by
 apply dD;intro j;by_cases a:j<n
 .rw[BG x n 0 j a,jG];simp[a]
 unfold wC;rw[bE (sU a),bE (sU a)]
def oF(x n:Nat):ByteArray:=((List.range n).map λj=>((x/256 ^ j%256:Nat):Int)).foldl (λr m=>r.push (UInt8.ofNat m.toNat)) ByteArray.empty
def OY(x n g:Nat)(w:World)(b:gp w g (wC x n n)):(convert 39 9 (.slice (some ⟨g,0,none⟩) n n)).run Tryz.prog w=.ok (.string (oF x n)) w:=by
 rw[run_convert_bytes_string w _ _ 5 _ _ _ underlying39 underlying5 underlying9];refine run_bytesToString w _ n n _ ?_;rw[run_loadCells w _ n (λj=>.int .u8 ((x/256 ^ j%256:Nat):Int)) (λj a=>?_)]
 .rw[List.map_map];rfl
 have:=b.c j _ (BG x n n j a);rw[aa a]at this;have c:(⟨g,0,none⟩:Addr).add j=⟨g,j,none⟩:=by unfold Addr.add;split<;>simp_all
 rw[c];exact this
set_option maxHeartbeats 4000000 in
theorem Rx(x n:Nat)(w:World)(hx:x<4294967296)(hn:n<=4):Calls Tryz.prog 175 #[.int .u32 x,.int .i64 n] w λe w'=>e=.returned (.tuple #[.string (oF x n),.int .i64 0])/\Below w.heap.size w w':=by
 have d4:decide ((4:Int)<n)=false:=by simp;omega
 go_enter func175,ntmps175
 go_wp2_with (at_make;refine Ox XE R (.tmp 14) (.tmp 14) R n oT .i64 .i64 n R R n R R ?_;intro w1 hown hb1)
 have M1:gp w1 w.heap.size (wC x n 0):=by
  rw[Rw];have:=UF hown;have hm:(madeCells (Value.int .u8 0).cells (n*1)).toList=List.replicate n (.int .u8 0):=by
   have hc:n=0\/n=1\/n=2\/n=3\/n=4:=oT;rcases hc with rfl|rfl|rfl|rfl|rfl<;>first|kernel_rfl|simp[madeCells,Value.cells,List.replicate,gZ,Nat.mod_one]
  rw[hm]at this;exact this
 clear hown
 go_loopw [17] (λi wr=>∃k:Nat,i=.int .i64 k/\k<=n/\gp wr w.heap.size (wC x n k)/\Below w.heap.size w wr) (λi _=>n-(intOf i).toNat)
 case atStart=>exact⟨0,R,aE _,M1,hb1⟩
 case round=>
  obtain⟨k,rfl,hk,M,hb⟩:=hrel;clear M1 hb1;by_cases hlt:k<n
  .have ck:=M.c k _ (BG x n k k hlt);have gk:=M.g k;have hv:(x:Int)/2 ^ (8*k)%256=((x/256 ^ k%256:Nat):Int):=by
    have:(x:Int)/2 ^ (8*k)=((x/256 ^ k:Nat):Int):=by rw[show(256:Nat) ^ k=2 ^ (8*k)from NA k];simp
    rw[this];rfl
   have HV:=Lib.hid hv;clear hv
   go_wp2_with fail
   go_roundw
   case rel=>exact⟨k+1,by go_num,oT,by rw[HV.out, <-LX x n k hlt];exact M.set k _ (by simpa [wC]using hlt),EH hb (aC _)⟩
   case measure=>simp[intOf];omega
  .have hkk:k=n:=oT;subst hkk;have hcv:=OY x k w.heap.size wr M
   go_wp2_with fail
   go_ret2
   exact⟨R,hb⟩
theorem KA:∀(a:List Int) (r:ByteArray),(a.foldl (λr m=>r.push (UInt8.ofNat m.toNat)) r).size=r.size+a.length
 |[],r=>rfl
 |m::a,r=>by
  rw[mK,KA a,ByteArray.size_push,bN];omega
def mP(x n:Nat):(oF x n).size=n:=by
 unfold oF;rw[KA];simp
end Go.Proofs.YtiaekocjeinkjaaGreatDoor
