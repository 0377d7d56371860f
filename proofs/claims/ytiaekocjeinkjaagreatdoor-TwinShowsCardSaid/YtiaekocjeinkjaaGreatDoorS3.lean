import Derived.Test.YtiaekocjeinkjaaGreatDoorProg
import Derived.Test.YtiaekocjeinkjaaGreatDoorS2
set_option linter.all false
namespace Go.Proofs.YtiaekocjeinkjaaGreatDoor
open Go.Proofs.Tryz
open Go.RowKit
def ar(x a size:Nat):Nat:=x/2 ^ a%2 ^ size
def bo(x a size v:Nat):Nat:=2 ^ a*(2 ^ size*(x/2 ^ (a+size))+v%2 ^ size)+x%2 ^ a
def cv(x size:Nat):Nat:=if x/2 ^ (size-1)%2=1 then x%2 ^ size+(4294967296-2 ^ size)else x%2 ^ size
def iR(x a size:Nat):ar x a size<2 ^ size:=aQ _ (eI _)
def wV{n:Nat}(h:n<=32):2 ^ n<=4294967296:=aL (bU oT h) dT
def Qb(a size:Nat)(h:a+size<=32):(((2 ^ size-1:Nat):Int)*2 ^ a%4294967296)=(((2 ^ size-1)*2 ^ a:Nat):Int)/\(2 ^ size-1)*2 ^ a<4294967296:=by
 have c:(2 ^ size-1)*2 ^ a<4294967296:=by
  have e:2 ^ size*2 ^ a=2 ^ (a+size):=by rw[<-Nat.pow_add,gJ]
  have:=wV h;have f:(2 ^ size-1)*2 ^ a=2 ^ size*2 ^ a-2 ^ a:=by rw[Nat.sub_mul,lD]
  have b:=eI a;have d:=eI size;have g:2 ^ a<=2 ^ size*2 ^ a:=Nat.le_mul_of_pos_left _ d;omega
 refine⟨?_,c⟩;have b:(((2 ^ size-1:Nat):Int)*2 ^ a)=(((2 ^ size-1)*2 ^ a:Nat):Int):=by simp
 rw[b];omega
def JS(a size j:Nat):((2 ^ size-1)*2 ^ a).testBit j=(decide (a<=j)&&decide (j-a<size)):=by
 rw[fK,dX]
def Qc(x a size v:Nat)(l:a+size<=32)(n:x<4294967296):
  (x&&&(4294967295-(2 ^ size-1)*2 ^ a)) ||| ((v*2 ^ a%4294967296)&&&((2 ^ size-1)*2 ^ a))=bo x a size v:=by
 have m:=(Qb a size l).2;apply Nat.eq_of_testBit_eq;intro j;have i:(4294967295-(2 ^ size-1)*2 ^ a).testBit j=(decide (j<32)&& !((2 ^ size-1)*2 ^ a).testBit j):=by
  have:=Nat.testBit_two_pow_sub_succ (n:=32) m j;rw[(dT:(2:Nat) ^ 32=4294967296)]at this;rw[(oT:4294967295-(2 ^ size-1)*2 ^ a=4294967296-((2 ^ size-1)*2 ^ a+1))];exact this
 have k:(v*2 ^ a%4294967296).testBit j=(decide (j<32)&&(decide (a<=j)&&v.testBit (j-a))):=by
  rw[(dT:(4294967296:Nat)=2 ^ 32),eB,fK]
 rw[Nat.testBit_or,Nat.testBit_and,Nat.testBit_and,i,k,JS];unfold bo;rw[Nat.testBit_two_pow_mul_add _ (aQ _ (eI _)),Nat.testBit_two_pow_mul_add _ (aQ _ (eI _))];have c:32<=j->x.testBit j=false:=λh=>Nat.testBit_lt_two_pow (e5 n (aL (by decide:4294967296<=2 ^ 32) (bU oT h)));by_cases d:j<a
 .rw[aa d,eB];have: ¬a<=j:=oT;have:j<32:=oT;simp[*]
 rw[dZ d];by_cases b:j-a<size
 .rw[aa b,eB];have:a<=j:=oT;have:j<32:=oT;simp[*]
 rw[dZ b,Nat.testBit_div_two_pow];have e:j-a-size+(a+size)=j:=oT;have o:a+size+(j-a-size)=j:=oT;have f:a<=j:=oT;by_cases g:j<32
 .simp[b,e,f,g]
 simp[b,e,f,g,c oT]
def EJ(x a size v:Nat)(d:a+size<=32)(b:x<4294967296):bo x a size v<4294967296:=by
 rw[<-Qc x a size v d b];have c:(x&&&(4294967295-(2 ^ size-1)*2 ^ a))<2 ^ 32:=bL kE b;have e:((v*2 ^ a%4294967296)&&&((2 ^ size-1)*2 ^ a))<2 ^ 32:=bL kE (aQ _ dT);exact kQ c e
def TH(x size:Nat)(b:size<=32):(x%2 ^ size) ||| (4294967295^^^(2 ^ size-1))=x%2 ^ size+(4294967296-2 ^ size):=by
 have hp:=wV b;have a:=eI size;have c:4294967295^^^(2 ^ size-1)=2 ^ size*(2 ^ (32-size)-1):=by
  apply Nat.eq_of_testBit_eq;intro j;rw[Nat.testBit_xor,(dT:(4294967295:Nat)=2 ^ 32-1),dX,dX,fR,fK,dX];by_cases d:j<size
  .have: ¬size<=j:=oT;have:j<32:=oT;simp[*]
  have:size<=j:=oT;by_cases e:j<32
  .have:j-size<32-size:=oT;simp[*]
  have: ¬j-size<32-size:=oT;simp[*]
 rw[c,Nat.or_comm, <-Nat.two_pow_add_eq_or_of_lt (aQ _ a)];have:2 ^ size*(2 ^ (32-size)-1)=4294967296-2 ^ size:=by
  rw[Nat.mul_sub,iD, <-Nat.pow_add,(oT:size+(32-size)=32)]
 omega
def JT(at' size:Nat)(w:World)(h1:1<=size)(h2:at'+size<=32):Calls Tryz.prog 241 #[.int .i64 at',.int .i64 size] w λe w'=>e=.returned (.bool true)/\w=w':=by
 have d1:at'<=31:=oT;have d2:decide ((size:Int)<=32-at')=true:=by simp;omega
 go_enter func241,ntmps241
 go_wp2
 go_ret
 exact⟨R,R⟩
def WA(size:Nat)(h:size<=32):((2:Int) ^ size%4294967296-1)%4294967296=((2 ^ size-1:Nat):Int):=by
 have b:=wV h;have c:=eI size;have a:((2:Int) ^ size)=((2 ^ size:Nat):Int):=by simp
 rw[a];omega
def DU(size:Nat)(w:World)(h:size<=32):Calls Tryz.prog 224 #[.int .i64 size] w λe w'=>e=.returned (.int .u32 (2 ^ size-1:Nat))/\w=w':=by
 have hE:=Lib.hid (WA size h)
 go_enter func224,ntmps224
 go_wp2
 go_ret
 exact⟨by rw[<-hE.out];rfl,R⟩
def WB(x at' size:Nat)(w:World)(h1:1<=size)(h2:at'+size<=32)(hx:x<4294967296):Calls Tryz.prog 238 #[.int .u32 x,.int .i64 at',.int .i64 size] w λe w'=>e=.returned (.int .u32 (ar x at' size))/\∃m,w'=w.drewN m:=by
 go_enter func238,ntmps238
 go_wp2_with (go_at_call 241;refine(JT _ _ _ h1 h2).mono ?_;rintro e w' ⟨rfl,rfl⟩)
 go_quiet ((go_at_call 224;exact Calls.quiet_of_same ((DU size _ oT).mono λ_ _ ⟨a,b⟩=>⟨a,b.symm⟩)))
 go_wp2_with fail
 go_ret
 refine⟨?_,_,R⟩;have e1:((x:Int)/2 ^ at')=((x/2 ^ at':Nat):Int):=by simp
 have e2:(bits .and .u32 ((x:Int)/2 ^ at') ((2 ^ size-1:Nat):Int))=(ar x at' size:Nat):=by
  have:=wV (oT:size<=32);have h3:x/2 ^ at'<4294967296:=bL (cO _ _) hx;rw[e1,u32_and_nat _ _ h3 oT,eV];rfl
 rw[<-e2];rfl
def Qd(x a size:Nat)(w:World)(b:1<=size)(c:a+size<=32)(d:x<4294967296):Calls Tryz.prog 238 #[.int .u32 x,.int .i64 a,.int .i64 size] w λe w'=>e=.returned (.int .u32 (ar x a size))/\Below w.heap.size w w':=by
 refine(WB x a size w b c d).mono ?_;rintro e w' ⟨rfl,m,rfl⟩;exact⟨R,EC _ _⟩
def TJ(x at' size v:Nat)(w:World)(h1:1<=size)(h2:at'+size<=32)(hx:x<4294967296)(hv:v<4294967296):Calls Tryz.prog 223 #[.int .u32 x,.int .i64 at',.int .i64 size,.int .u32 v] w λe w'=>e=.returned (.int .u32 (bo x at' size v))/\w=w':=by
 go_enter func223,ntmps223
 go_wp2_with (first|(go_at_call 241;refine(JT _ _ _ h1 h2).mono ?_;rintro e w' ⟨rfl,rfl⟩)|(go_at_call 224;refine(DU size _ oT).mono ?_;rintro e w' ⟨rfl,rfl⟩))
 go_ret
 refine⟨?_,R⟩;have e2:(bits .or .u32 (bits .andNot .u32 (x:Int) (((2 ^ size-1:Nat):Int)*2 ^ at'%4294967296)) (bits .and .u32 ((v:Int)*2 ^ at'%4294967296) (((2 ^ size-1:Nat):Int)*2 ^ at'%4294967296)))=(bo x at' size v:Nat):=by
  obtain⟨m1,m2⟩:=Qb at' size h2;have e3:((v:Int)*2 ^ at'%4294967296)=((v*2 ^ at'%4294967296:Nat):Int):=by simp
  rw[m1,e3,u32_andNot_nat _ _ hx m2,u32_and_nat _ _ (aQ _ dT) m2,u32_or_nat _ _ (bL kE hx) (bL kE (aQ _ dT)),Qc x at' size v h2 hx]
 rw[<-e2];rfl
def Qe(x a size v:Nat)(w:World)(b:1<=size)(c:a+size<=32)(f:x<4294967296)(d:v<4294967296):Calls Tryz.prog 223 #[.int .u32 x,.int .i64 a,.int .i64 size,.int .u32 v] w λe w'=>e=.returned (.int .u32 (bo x a size v))/\Below w.heap.size w w':=by
 refine(TJ x a size v w b c f d).mono ?_;rintro e w' ⟨rfl,rfl⟩;exact⟨R,rD _⟩
def Ic(x size:Nat)(w:World)(h1:1<=size)(h2:size<=32)(hx:x<4294967296):Calls Tryz.prog 201 #[.int .u32 x,.int .i64 size] w λe w'=>e=.returned (.int .u32 (cv x size))/\Below w.heap.size w w':=by
 have d1:decide ((size:Int)<1)=false:=by simp;omega
 have d2:decide ((32:Int)<size)=false:=by simp;omega
 have hp:=wV h2;have hpos:=eI size;have e1:Hid (bits .and .u32 (x:Int) ((2 ^ size-1:Nat):Int)=((x%2 ^ size:Nat):Int)):=by
  show _=_;rw[u32_and_nat _ _ hx oT,eV]
 have e2:bits .and .u32 ((x:Int)/2 ^ (size-1)) 1=((x/2 ^ (size-1)%2:Nat):Int):=by
  have h3:x/2 ^ (size-1)<4294967296:=bL (cO _ _) hx;have:=u32_and_nat (x/2 ^ (size-1)) 1 h3 oT;rw[Nat.and_one_is_mod]at this;have e3:((x:Int)/2 ^ (size-1))=((x/2 ^ (size-1):Nat):Int):=by simp
  rw[e3];exact this
 have e4:Hid (bits .xor .u32 IntKind.u32.max ((2 ^ size-1:Nat):Int)=((4294967295^^^(2 ^ size-1):Nat):Int)):=by
  show _=_;have:=u32_xor_nat 4294967295 (2 ^ size-1) oT oT;exact this
 have e5:(4294967295^^^(2 ^ size-1):Nat)<4294967296:=iM (n:=32) dT oT;clear hp hpos;by_cases hb:x/2 ^ (size-1)%2=1
 .have e6:(bits .and .u32 ((x:Int)/2 ^ (size-1)) 1==1)=true:=by rw[e2,hb];rfl
  have hv:Hid (cv x size=x%2 ^ size+(4294967296-2 ^ size)):=by show _=_;simp[cv,hb]
  clear e2 hb
  go_enter func201,ntmps201
  go_wp2_with (go_at_call 224;refine(DU size _ oT).mono ?_;rintro e w' ⟨rfl,rfl⟩)
  go_ret
  refine⟨?_,rD _⟩;have e7:bits .or .u32 (bits .and .u32 (x:Int) ((2 ^ size-1:Nat):Int)) (bits .xor .u32 IntKind.u32.max ((2 ^ size-1:Nat):Int))=((cv x size:Nat):Int):=by
   rw[hv.out, <-TH x size h2,e1.out,e4.out,u32_or_nat _ _ (bL (gR _ _) hx) e5]
  rw[<-e7];rfl
 have e6:(bits .and .u32 ((x:Int)/2 ^ (size-1)) 1==1)=false:=by rw[e2];simp only[bA];omega
 have hv:Hid (cv x size=x%2 ^ size):=by show _=_;simp[cv,hb]
 clear e2 hb
 go_enter func201,ntmps201
 go_wp2_with (go_at_call 224;refine(DU size _ oT).mono ?_;rintro e w' ⟨rfl,rfl⟩)
 go_ret
 refine⟨?_,rD _⟩;rw[hv.out, <-e1.out];rfl
def cW(a:Int):Nat:=
 if a<1\/48<a then 0 else if a<=2 then 6 else if a=3 then 7 else if a=4 then 2 else if a<=10 then 5 else if a<=15 then 2 else if a<=18 then 4
 else if a<=24 then 2 else if a<=27 then 3 else if a<=45 then 1 else 8
def sB(a:Int):cW a<=8:=by
 unfold cW
 repeat' (split<;>try omega)
def qH:Nat->Nat
 |8=>4294967295
 |1=>4261441663
 |3=>4261441663
 |2=>28799
 |4=>28799
 |5=>28799
 |6=>127
 |7=>127
 |_=>0
def yW(f:Nat):Bool:=f==1||f==2||f==3||f==6||f==7
def uS(f:Nat):Bool:=f==1||f==2||f==3||f==4||f==5
def vS(f:Nat):Bool:=f==1||f==4||f==5
def eQ:Nat->List (Nat×Nat)
 |2=>[(20,12)]
 |3=>[(20,5)]
 |4=>[(7,5),(25,7)]
 |5=>[(8,4),(25,6),(7,1),(31,1)]
 |6=>[(12,20)]
 |7=>[(21,10),(20,1),(12,8),(31,1)]
 |_=>[]
def qN:Nat->Nat
 |5=>1
 |6=>12
 |7=>1
 |_=>0
set_option maxHeartbeats 4000000 in
theorem Cb(op:Int)(w:World):Calls Tryz.prog 199 #[.int .i64 op] w λe w'=>e=.returned (.int .i64 (cW op))∧w=w':=by
 obtain⟨R,hR⟩:∃R,R=cW op:=⟨_,rfl⟩;have HR:=Lib.hid hR;rw[<-hR];clear hR;have hc:(op<1∧R=0)∨(1<=op∧48<op∧R=0)∨(1<=op∧op<=2∧R=6)∨(op=3∧R=7)∨(op=4∧R=2)∨(5<=op∧op<=10∧R=5)∨(11<=op∧op<=15∧R=2)∨(16<=op∧op<=18∧R=4)∨(19<=op∧op<=24∧R=2)∨(25<=op∧op<=27∧R=3)∨
   (28<=op∧op<=45∧R=1)∨(46<=op∧op<=48∧R=8):=by
  rw[HR.out];unfold cW
  repeat' (split<;>try omega)
 clear HR;rcases hc with ⟨h1,rfl⟩|⟨h1,h2,rfl⟩|⟨h1,h2,rfl⟩|⟨rfl,rfl⟩|⟨rfl,rfl⟩|⟨h1,h2,rfl⟩|⟨h1,h2,rfl⟩|⟨h1,h2,rfl⟩|⟨h1,h2,rfl⟩|⟨h1,h2,rfl⟩|⟨h1,h2,rfl⟩|⟨h1,h2,rfl⟩
 all_goals
  go_enter func199,ntmps199
  go_wp2
  go_ret
  exact⟨rfl,rfl⟩
set_option maxHeartbeats 4000000 in
theorem Qa(f:Nat)(hf:f<=8)(w:World):Calls Tryz.prog 216 #[.int .i64 f] w λe w'=>e=.returned (.int .u32 (qH f))/\w=w':=by
 have hc:f=0\/f=1\/f=2\/f=3\/f=4\/f=5\/f=6\/f=7\/f=8:=oT;rcases hc with rfl|rfl|rfl|rfl|rfl|rfl|rfl|rfl|rfl
 all_goals
  go_enter func216,ntmps216
  go_wp2
  go_ret
  exact⟨by first|rfl|decide,rfl⟩
set_option maxHeartbeats 4000000 in
theorem LB(f:Nat)(hf:f<=8)(w:World):Calls Tryz.prog 198 #[.int .i64 f] w λe w'=>e=.returned (.tuple #[.bool (yW f),.bool (uS f),.bool (vS f)])/\w=w':=by
 have hc:f=0\/f=1\/f=2\/f=3\/f=4\/f=5\/f=6\/f=7\/f=8:=oT;rcases hc with rfl|rfl|rfl|rfl|rfl|rfl|rfl|rfl|rfl
 all_goals
  go_enter func198,ntmps198
  go_wp2
  go_ret3
  exact⟨rfl,rfl⟩
def sE(p:Nat×Nat):List Value:=[.int .i64 p.1,.int .i64 p.2]
set_option maxHeartbeats 4000000 in
theorem OA(f:Nat)(hf:f<=8)(w:World):Calls Tryz.prog 221 #[.int .i64 f] w λe w'=>∃v,e=.returned (.tuple #[v,.int .i64 (qN f)])/\Sl 0 302 2 w' v (eQ f).length ((eQ f).flatMap sE)/\Below w.heap.size w w':=by
 have hc:f=0\/f=1\/f=2\/f=3\/f=4\/f=5\/f=6\/f=7\/f=8:=oT;have hl:∀(cs:Array Value) (n:Nat),n<=100->cs.size=n*2->Sl 0 302 2 (w.alloc (.cells cs 302)) (.slice (some ⟨w.heap.size,0,none⟩) n n) n cs.toList:=λcs n hn hs=>
  Sl.YT (World.ownsRow_lit w (base:=w.heap.size) cs n (aC _) (by unfold maxLen;omega) hs) oT
 rcases hc with rfl|rfl|rfl|rfl|rfl|rfl|rfl|rfl|rfl
 all_goals
  go_enter func221,ntmps221
  go_wp2
  go_ret2
  first
   |exact⟨_,rfl,Sl.nil _ _ _ _,rD _⟩
   |exact⟨_,rfl,hl _ 1 oT rfl,cK _⟩
   |exact⟨_,rfl,hl _ 2 oT rfl,cK _⟩
   |exact⟨_,rfl,hl _ 4 oT rfl,cK _⟩
end Go.Proofs.YtiaekocjeinkjaaGreatDoor
