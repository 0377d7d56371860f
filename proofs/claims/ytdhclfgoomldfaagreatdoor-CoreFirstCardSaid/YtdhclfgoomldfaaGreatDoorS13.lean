/- Lemmas. -/
import Derived.Test.YtdhclfgoomldfaaGreatDoorS1
import Derived.Test.YtdhclfgoomldfaaGreatDoorS7
set_option linter.all false
namespace Go.Proofs.YtdhclfgoomldfaaGreatDoor
open Go.Proofs.Tryz
open Go.RowKit
def ak(a:Int):Nat:=if 3<=a∧a<=10 then 5 else if 11<=a∧a<=15 then 3 else if 16<=a∧a<=18 then 4 else if 38<=a∧a<=41 then 1 else if 42<=a∧a<=45 then 2 else if a=47∨a=48 then 6 else 0
def a'(a:Int):Nat:=if a=11∨a=14∨a=16 then 1 else if a=12∨a=15∨a=17 then 2 else if a=13∨a=18 then 4 else 0
set_option maxHeartbeats 4000000 in
theorem IP(op rd ag0 ag1)(agR)(w):Calls Tryz.prog 78 #[.agg #[.int .i64 op,.int .i64 rd,.int .i64 ag0,.int .i64 ag1,.int .u32 agR]] w λe w'=>e=.returned (.int .i64 (ak op))∧Below w.heap.size w w':=by
 let⟨R,hR⟩:∃R,R=ak op:=⟨_,rfl⟩;have HR:=Lib.hid hR;rw[<-hR];clear hR;have hc:(op<=2∧R=0)∨(3<=op∧op<=10∧R=5)∨(11<=op∧op<=15∧R=3)∨(16<=op∧op<=18∧R=4)∨(19<=op∧op<=37∧R=0)∨(38<=op∧op<=41∧R=1)∨(42<=op∧op<=45∧R=2)∨(op=46∧R=0)∨(op=47∧R=6)∨(op=48∧R=6)∨(49<=op∧R=0):=by
  rw[HR.out];unfold ak
  repeat' (split<;>try omega)
 clear HR;rcases hc with ⟨h2,rfl⟩|⟨h1,h2,rfl⟩|⟨h1,h2,rfl⟩|⟨h1,h2,rfl⟩|⟨h1,h2,rfl⟩|⟨h1,h2,rfl⟩|⟨h1,h2,rfl⟩|⟨rfl,rfl⟩|⟨rfl,rfl⟩|⟨rfl,rfl⟩|⟨h1,rfl⟩
 ·skip
  have g0:decide ((3:Int)<=op)=false:=by simp;omega
  have g1:decide ((11:Int)<=op)=false:=by simp;omega
  have g2:decide ((16:Int)<=op)=false:=by simp;omega
  have g3:decide ((38:Int)<=op)=false:=by simp;omega
  have g4:decide ((42:Int)<=op)=false:=by simp;omega
  have l0:decide (op<=(10:Int))=true:=by simp;omega
  have l1:decide (op<=(15:Int))=true:=by simp;omega
  have l2:decide (op<=(18:Int))=true:=by simp;omega
  have l3:decide (op<=(41:Int))=true:=by simp;omega
  have l4:decide (op<=(45:Int))=true:=by simp;omega
  have e0:(op==(47:Int))=false:=by simp[bA];omega
  have e1:(op==(48:Int))=false:=by simp[bA];omega
  go_enter func78,ntmps78
  go_wp2
  go_ret
  exact⟨rfl,cK _⟩
 ·skip
  have g0:decide ((3:Int)<=op)=true:=by simp;omega
  have g1:decide ((11:Int)<=op)=false:=by simp;omega
  have g2:decide ((16:Int)<=op)=false:=by simp;omega
  have g3:decide ((38:Int)<=op)=false:=by simp;omega
  have g4:decide ((42:Int)<=op)=false:=by simp;omega
  have l0:decide (op<=(10:Int))=true:=by simp;omega
  have l1:decide (op<=(15:Int))=true:=by simp;omega
  have l2:decide (op<=(18:Int))=true:=by simp;omega
  have l3:decide (op<=(41:Int))=true:=by simp;omega
  have l4:decide (op<=(45:Int))=true:=by simp;omega
  have e0:(op==(47:Int))=false:=by simp[bA];omega
  have e1:(op==(48:Int))=false:=by simp[bA];omega
  go_enter func78,ntmps78
  go_wp2
  go_ret
  exact⟨rfl,cK _⟩
 ·skip
  have g0:decide ((3:Int)<=op)=true:=by simp;omega
  have g1:decide ((11:Int)<=op)=true:=by simp;omega
  have g2:decide ((16:Int)<=op)=false:=by simp;omega
  have g3:decide ((38:Int)<=op)=false:=by simp;omega
  have g4:decide ((42:Int)<=op)=false:=by simp;omega
  have l0:decide (op<=(10:Int))=false:=by simp;omega
  have l1:decide (op<=(15:Int))=true:=by simp;omega
  have l2:decide (op<=(18:Int))=true:=by simp;omega
  have l3:decide (op<=(41:Int))=true:=by simp;omega
  have l4:decide (op<=(45:Int))=true:=by simp;omega
  have e0:(op==(47:Int))=false:=by simp[bA];omega
  have e1:(op==(48:Int))=false:=by simp[bA];omega
  go_enter func78,ntmps78
  go_wp2
  go_ret
  exact⟨rfl,cK _⟩
 ·skip
  have g0:decide ((3:Int)<=op)=true:=by simp;omega
  have g1:decide ((11:Int)<=op)=true:=by simp;omega
  have g2:decide ((16:Int)<=op)=true:=by simp;omega
  have g3:decide ((38:Int)<=op)=false:=by simp;omega
  have g4:decide ((42:Int)<=op)=false:=by simp;omega
  have l0:decide (op<=(10:Int))=false:=by simp;omega
  have l1:decide (op<=(15:Int))=false:=by simp;omega
  have l2:decide (op<=(18:Int))=true:=by simp;omega
  have l3:decide (op<=(41:Int))=true:=by simp;omega
  have l4:decide (op<=(45:Int))=true:=by simp;omega
  have e0:(op==(47:Int))=false:=by simp[bA];omega
  have e1:(op==(48:Int))=false:=by simp[bA];omega
  go_enter func78,ntmps78
  go_wp2
  go_ret
  exact⟨rfl,cK _⟩
 ·skip
  have g0:decide ((3:Int)<=op)=true:=by simp;omega
  have g1:decide ((11:Int)<=op)=true:=by simp;omega
  have g2:decide ((16:Int)<=op)=true:=by simp;omega
  have g3:decide ((38:Int)<=op)=false:=by simp;omega
  have g4:decide ((42:Int)<=op)=false:=by simp;omega
  have l0:decide (op<=(10:Int))=false:=by simp;omega
  have l1:decide (op<=(15:Int))=false:=by simp;omega
  have l2:decide (op<=(18:Int))=false:=by simp;omega
  have l3:decide (op<=(41:Int))=true:=by simp;omega
  have l4:decide (op<=(45:Int))=true:=by simp;omega
  have e0:(op==(47:Int))=false:=by simp[bA];omega
  have e1:(op==(48:Int))=false:=by simp[bA];omega
  go_enter func78,ntmps78
  go_wp2
  go_ret
  exact⟨rfl,cK _⟩
 ·skip
  have g0:decide ((3:Int)<=op)=true:=by simp;omega
  have g1:decide ((11:Int)<=op)=true:=by simp;omega
  have g2:decide ((16:Int)<=op)=true:=by simp;omega
  have g3:decide ((38:Int)<=op)=true:=by simp;omega
  have g4:decide ((42:Int)<=op)=false:=by simp;omega
  have l0:decide (op<=(10:Int))=false:=by simp;omega
  have l1:decide (op<=(15:Int))=false:=by simp;omega
  have l2:decide (op<=(18:Int))=false:=by simp;omega
  have l3:decide (op<=(41:Int))=true:=by simp;omega
  have l4:decide (op<=(45:Int))=true:=by simp;omega
  have e0:(op==(47:Int))=false:=by simp[bA];omega
  have e1:(op==(48:Int))=false:=by simp[bA];omega
  go_enter func78,ntmps78
  go_wp2
  go_ret
  exact⟨rfl,cK _⟩
 ·skip
  have g0:decide ((3:Int)<=op)=true:=by simp;omega
  have g1:decide ((11:Int)<=op)=true:=by simp;omega
  have g2:decide ((16:Int)<=op)=true:=by simp;omega
  have g3:decide ((38:Int)<=op)=true:=by simp;omega
  have g4:decide ((42:Int)<=op)=true:=by simp;omega
  have l0:decide (op<=(10:Int))=false:=by simp;omega
  have l1:decide (op<=(15:Int))=false:=by simp;omega
  have l2:decide (op<=(18:Int))=false:=by simp;omega
  have l3:decide (op<=(41:Int))=false:=by simp;omega
  have l4:decide (op<=(45:Int))=true:=by simp;omega
  have e0:(op==(47:Int))=false:=by simp[bA];omega
  have e1:(op==(48:Int))=false:=by simp[bA];omega
  go_enter func78,ntmps78
  go_wp2
  go_ret
  exact⟨rfl,cK _⟩
 ·skip
  go_enter func78,ntmps78
  go_wp2
  go_ret
  exact⟨rfl,cK _⟩
 ·skip
  go_enter func78,ntmps78
  go_wp2
  go_ret
  exact⟨rfl,cK _⟩
 ·skip
  go_enter func78,ntmps78
  go_wp2
  go_ret
  exact⟨rfl,cK _⟩
 ·skip
  have g0:decide ((3:Int)<=op)=true:=by simp;omega
  have g1:decide ((11:Int)<=op)=true:=by simp;omega
  have g2:decide ((16:Int)<=op)=true:=by simp;omega
  have g3:decide ((38:Int)<=op)=true:=by simp;omega
  have g4:decide ((42:Int)<=op)=true:=by simp;omega
  have l0:decide (op<=(10:Int))=false:=by simp;omega
  have l1:decide (op<=(15:Int))=false:=by simp;omega
  have l2:decide (op<=(18:Int))=false:=by simp;omega
  have l3:decide (op<=(41:Int))=false:=by simp;omega
  have l4:decide (op<=(45:Int))=false:=by simp;omega
  have e0:(op==(47:Int))=false:=by simp[bA];omega
  have e1:(op==(48:Int))=false:=by simp[bA];omega
  go_enter func78,ntmps78
  go_wp2
  go_ret
  exact⟨rfl,cK _⟩
set_option maxHeartbeats 4000000 in
theorem Nz(op rd ag0 ag1)(agR)(w):Calls Tryz.prog 121 #[.agg #[.int .i64 op,.int .i64 rd,.int .i64 ag0,.int .i64 ag1,.int .u32 agR]] w λe w'=>e=.returned (.int .i64 (a' op))∧Below w.heap.size w w':=by
 let⟨R,hR⟩:∃R,R=a' op:=⟨_,rfl⟩;have HR:=Lib.hid hR;rw[<-hR];clear hR;have hc:(op<=10∧R=0)∨(op=11∧R=1)∨(op=12∧R=2)∨(op=13∧R=4)∨(op=14∧R=1)∨(op=15∧R=2)∨(op=16∧R=1)∨(op=17∧R=2)∨(op=18∧R=4)∨(19<=op∧R=0):=by
  rw[HR.out];unfold a'
  repeat' (split<;>try omega)
 clear HR;rcases hc with ⟨h2,rfl⟩|⟨rfl,rfl⟩|⟨rfl,rfl⟩|⟨rfl,rfl⟩|⟨rfl,rfl⟩|⟨rfl,rfl⟩|⟨rfl,rfl⟩|⟨rfl,rfl⟩|⟨rfl,rfl⟩|⟨h1,rfl⟩
 ·skip
  have e0:(op==(11:Int))=false:=by simp[bA];omega
  have e1:(op==(14:Int))=false:=by simp[bA];omega
  have e2:(op==(16:Int))=false:=by simp[bA];omega
  have e3:(op==(12:Int))=false:=by simp[bA];omega
  have e4:(op==(15:Int))=false:=by simp[bA];omega
  have e5:(op==(17:Int))=false:=by simp[bA];omega
  have e6:(op==(13:Int))=false:=by simp[bA];omega
  have e7:(op==(18:Int))=false:=by simp[bA];omega
  go_enter func121,ntmps121
  go_wp2
  go_ret
  exact⟨rfl,cK _⟩
 ·skip
  go_enter func121,ntmps121
  go_wp2
  go_ret
  exact⟨rfl,cK _⟩
 ·skip
  go_enter func121,ntmps121
  go_wp2
  go_ret
  exact⟨rfl,cK _⟩
 ·skip
  go_enter func121,ntmps121
  go_wp2
  go_ret
  exact⟨rfl,cK _⟩
 ·skip
  go_enter func121,ntmps121
  go_wp2
  go_ret
  exact⟨rfl,cK _⟩
 ·skip
  go_enter func121,ntmps121
  go_wp2
  go_ret
  exact⟨rfl,cK _⟩
 ·skip
  go_enter func121,ntmps121
  go_wp2
  go_ret
  exact⟨rfl,cK _⟩
 ·skip
  go_enter func121,ntmps121
  go_wp2
  go_ret
  exact⟨rfl,cK _⟩
 ·skip
  go_enter func121,ntmps121
  go_wp2
  go_ret
  exact⟨rfl,cK _⟩
 ·skip
  have e0:(op==(11:Int))=false:=by simp[bA];omega
  have e1:(op==(14:Int))=false:=by simp[bA];omega
  have e2:(op==(16:Int))=false:=by simp[bA];omega
  have e3:(op==(12:Int))=false:=by simp[bA];omega
  have e4:(op==(15:Int))=false:=by simp[bA];omega
  have e5:(op==(17:Int))=false:=by simp[bA];omega
  have e6:(op==(13:Int))=false:=by simp[bA];omega
  have e7:(op==(18:Int))=false:=by simp[bA];omega
  go_enter func121,ntmps121
  go_wp2
  go_ret
  exact⟨rfl,cK _⟩
set_option maxHeartbeats 4000000 in
theorem OX(op rd ag0 ag1)(agR)(w):Calls Tryz.prog 117 #[.agg #[.int .i64 op,.int .i64 rd,.int .i64 ag0,.int .i64 ag1,.int .u32 agR]] w λe w'=>e=.returned (.int .i64 (if yW (cW op)then rd else 0))∧Below w.heap.size w w':=by
 have hf:=sB op;generalize hF:cW op=f at *;have cform:∀w,Calls Tryz.prog 148 #[.int .i64 op] w λe w'=>e=.returned _∧w=w':=λw=>by
  have:=Cb op w;rwa[hF]at this
 have chas:=λw=>LB f hf w;clear hF;generalize uS f=b1 at *;generalize vS f=b2 at *;let⟨b,hb⟩:∃b,b=yW f:=⟨_,rfl⟩;rw[<-hb]at chas⊢;clear hb;cases b
 all_goals
  go_enter func117,ntmps117
  go_wp2_with fail
  apply(cform _).mono;rintro e w1 ⟨rfl,rfl⟩
  go_wp2_with fail
  apply(chas _).mono;rintro e w1 ⟨rfl,rfl⟩
  go_wp2_with fail
  go_ret
  exact⟨rfl,cK _⟩
end Go.Proofs.YtdhclfgoomldfaaGreatDoor
