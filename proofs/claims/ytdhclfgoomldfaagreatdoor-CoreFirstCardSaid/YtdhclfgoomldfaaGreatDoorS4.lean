/- Lemmas. -/
import Derived.Test.YtdhclfgoomldfaaGreatDoorS1
import Derived.Test.YtdhclfgoomldfaaGreatDoorS3
set_option linter.all false
namespace Go.Proofs.YtdhclfgoomldfaaGreatDoor
open Go.Proofs.Tryz
open Go.RowKit
def cW(a:Int):Nat:=
 if a<1∨48<a then 0 else if a<=2 then 6 else if a=3 then 7 else if a=4 then 2 else if a<=10 then 5 else if a<=15 then 2 else if a<=18 then 4
 else if a<=24 then 2 else if a<=27 then 3 else if a<=45 then 1 else 8
def sB(a):cW a<=8:=by
 unfold cW
 repeat' (split<;>try omega)
def qH:Nat->Nat
 |8=>4294967295
 |1=>4261441663
 |3=>4261441663
 |2=>28799
 |4=>28799
 |5=>28799
 |6=>127
 |7=>127
 |_=>0
def yW(f:Nat):Bool:=f==1||f==2||f==3||f==6||f==7
def uS(f:Nat):Bool:=f==1||f==2||f==3||f==4||f==5
def vS(f:Nat):Bool:=f==1||f==4||f==5
def eQ:Nat->List (Nat×Nat)
 |2=>[(20,12)]
 |3=>[(20,5)]
 |4=>[(7,5),(25,7)]
 |5=>[(8,4),(25,6),(7,1),(31,1)]
 |6=>[(12,20)]
 |7=>[(21,10),(20,1),(12,8),(31,1)]
 |_=>[]
def qN:Nat->Nat
 |5=>1
 |6=>12
 |7=>1
 |_=>0
set_option maxHeartbeats 4000000 in
theorem Cb(op)(w):Calls Tryz.prog 148 #[.int .i64 op] w λe w'=>e=.returned (.int .i64 (cW op))∧w=w':=by
 let⟨R,hR⟩:∃R,R=cW op:=⟨_,rfl⟩;have HR:=Lib.hid hR;rw[<-hR];clear hR;have hc:(op<1∧R=0)∨(1<=op∧48<op∧R=0)∨(1<=op∧op<=2∧R=6)∨(op=3∧R=7)∨(op=4∧R=2)∨(5<=op∧op<=10∧R=5)∨(11<=op∧op<=15∧R=2)∨(16<=op∧op<=18∧R=4)∨(19<=op∧op<=24∧R=2)∨(25<=op∧op<=27∧R=3)∨
   (28<=op∧op<=45∧R=1)∨(46<=op∧op<=48∧R=8):=by
  rw[HR.out];unfold cW
  repeat' (split<;>try omega)
 clear HR;rcases hc with ⟨h1,rfl⟩|⟨h1,h2,rfl⟩|⟨h1,h2,rfl⟩|⟨rfl,rfl⟩|⟨rfl,rfl⟩|⟨h1,h2,rfl⟩|⟨h1,h2,rfl⟩|⟨h1,h2,rfl⟩|⟨h1,h2,rfl⟩|⟨h1,h2,rfl⟩|⟨h1,h2,rfl⟩|⟨h1,h2,rfl⟩
 all_goals
  go_enter func148,ntmps148
  go_wp2
  go_ret
  exact⟨rfl,rfl⟩
set_option maxHeartbeats 4000000 in
theorem Qa(f:Nat)(hf:f<=8)(w):Calls Tryz.prog 165 #[.int .i64 f] w λe w'=>e=.returned (.int .u32 (qH f))∧w=w':=by
 have hc:f=0∨f=1∨f=2∨f=3∨f=4∨f=5∨f=6∨f=7∨f=8:=oT;rcases hc with rfl|rfl|rfl|rfl|rfl|rfl|rfl|rfl|rfl
 all_goals
  go_enter func165,ntmps165
  go_wp2
  go_ret
  exact⟨by first|rfl|decide,rfl⟩
set_option maxHeartbeats 4000000 in
theorem LB(f:Nat)(hf:f<=8)(w):Calls Tryz.prog 147 #[.int .i64 f] w λe w'=>e=.returned (.tuple #[.bool (yW f),.bool (uS f),.bool (vS f)])∧w=w':=by
 have hc:f=0∨f=1∨f=2∨f=3∨f=4∨f=5∨f=6∨f=7∨f=8:=oT;rcases hc with rfl|rfl|rfl|rfl|rfl|rfl|rfl|rfl|rfl
 all_goals
  go_enter func147,ntmps147
  go_wp2
  go_ret3
  exact⟨rfl,rfl⟩
def sE(p:Nat×Nat):List Value:=[.int .i64 p.1,.int .i64 p.2]
set_option maxHeartbeats 4000000 in
theorem OA(f:Nat)(hf:f<=8)(w):Calls Tryz.prog 167 #[.int .i64 f] w λe w'=>∃v,e=.returned (.tuple #[v,.int .i64 (qN f)])∧Sl 0 235 2 w' v (eQ f).length ((eQ f).flatMap sE)∧Below w.heap.size w w':=by
 have hc:f=0∨f=1∨f=2∨f=3∨f=4∨f=5∨f=6∨f=7∨f=8:=oT;have hl:∀(cs:Array Value) (n:Nat),n<=100->cs.size=n*2->Sl 0 235 2 (w.alloc (.cells cs 235)) (.slice (some ⟨w.heap.size,0,none⟩) n n) n cs.toList:=λcs n hn hs=>
  Sl.YS (World.ownsRow_lit w cs n (aC _) (by unfold maxLen;omega) hs) oT
 rcases hc with rfl|rfl|rfl|rfl|rfl|rfl|rfl|rfl|rfl
 all_goals
  go_enter func167,ntmps167
  go_wp2
  go_ret2
  first
   |exact⟨_,rfl,Sl.nil _ _ _ _,rD _⟩
   |exact⟨_,rfl,hl _ 1 oT rfl,cK _⟩
   |exact⟨_,rfl,hl _ 2 oT rfl,cK _⟩
   |exact⟨_,rfl,hl _ 4 oT rfl,cK _⟩
end Go.Proofs.YtdhclfgoomldfaaGreatDoor
