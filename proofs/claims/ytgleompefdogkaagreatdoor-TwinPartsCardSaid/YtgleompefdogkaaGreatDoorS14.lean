/- Joined texts. -/
import Derived.Deep.DeepCutAuto
import Derived.Test.YtgleompefdogkaaGreatDoorS1
import Derived.Test.YtgleompefdogkaaGreatDoorS12
import Derived.Test.YtgleompefdogkaaGreatDoorS13
set_option linter.unusedVariables false
set_option linter.unusedSimpArgs false
set_option linter.defProp false
namespace Go.Proofs.YtgleompefdogkaaGreatDoor
open Go.RowKit
def ML(op:Int)(s x:Nat)(h:s<4294967296):Bw op s x<4294967296:=by unfold Bw;split<;>omega
def Wc(op:Int)(a b:Nat)(ha:a<4294967296)(hb:b<4294967296):IF op a b<4294967296:=by
 have l1:=pX op a ha;unfold IF;split
 ·split
  ·omega
  ·exact ML _ _ _ (bM (fJ _ _) l1)
 ·split
  ·split
   ·omega
   ·exact ML _ _ _ (bM (oF _ _) l1)
  ·omega
set_option maxHeartbeats 4000000 in
theorem DP(op:Int)(s x b:Nat)(w:World)(hs:s<4294967296)(hx:x<4294967296)(sg:Bool)(hsg:sg=decide (op=42∨op=44))(hc:w.cell? ⟨b,0,none⟩=some (.bool sg)):
  Calls Tryz.prog 179 #[.int .u32 s,.int .u32 x,.pointer (some ⟨b,0,none⟩)] w λe w'=>e=.returned (.int .u32 (Bw op s x))∧w=w':=by
 have wx:=xB x hx;have hs2:(2147483648<=x->decide (sgn x<0)=true)∧(x<2147483648->decide (sgn x<0)=false):=by
  unfold sgn;constructor
  ·intro h;rw[if_neg (by omega)];simp;omega
  ·intro h;rw[if_pos (by omega)];simp
 have hb:=Lib.hid hs2;clear hs2
 cases sg with
 | false=>
  have hv:Hid (Bw op s x=s):=by
   show _=_;unfold Bw;have: ¬(op=42∨op=44):=aD hsg.symm;rw[if_neg (λh=>this h.1)]
  clear hsg
  go_enter Tryz.func179,Tryz.ntmps179
  go_wp2_with fail
  go_ret
  exact⟨by rw[hv.out];rfl,rfl⟩
 | true=>
  have hop:op=42∨op=44:=of_decide_eq_true hsg.symm;clear hsg;by_cases h:2147483648<=x
  ·have hd:=hb.out.1 h;have hv:Hid (Bw op s x=(4294967296-s)%4294967296):=by show _=_;unfold Bw;rw[if_pos ⟨hop,h⟩]
   clear hop
   go_enter Tryz.func179,Tryz.ntmps179
   go_wp2_with fail
   go_ret
   refine⟨gE ?_,rfl⟩;rw[hv.out];omega
  ·have hd:=hb.out.2 (by omega);have hv:Hid (Bw op s x=s):=by show _=_;unfold Bw;rw[if_neg (λq=>h q.2)]
   clear hop
   go_enter Tryz.func179,Tryz.ntmps179
   go_wp2_with fail
   go_ret
   exact⟨by rw[hv.out];rfl,rfl⟩
set_option maxHeartbeats 8000000 in
theorem NV(op:Int)(a b:Nat)(w:World)(ha:a<4294967296)(hb:b<4294967296):Calls Tryz.prog 163 #[.int .i64 op,.int .u32 a,.int .u32 b] w λe w'=>e=.returned (.int .u32 (IF op a b))∧Below w.heap.size w w':=by
 have hx:=u32_xor_nat a b ha hb;have hxl:a^^^b<4294967296:=mE (n:=32) ha hb;have hc:op=42∨op=43∨op=44∨op=45∨(op≠42∧op≠43∧op≠44∧op≠45):=by omega
 by_cases hb0:b=0
 ·subst hb0;rcases hc with rfl|rfl|rfl|rfl|⟨n1,n2,n3,n4⟩
  ·go_enter Tryz.func163,Tryz.ntmps163
   go_wp2_with fail
   go_ret
   exact⟨rfl,cJ _⟩
  ·go_enter Tryz.func163,Tryz.ntmps163
   go_wp2_with fail
   go_ret
   exact⟨rfl,cJ _⟩
  ·go_enter Tryz.func163,Tryz.ntmps163
   go_wp2_with fail
   go_ret
   exact⟨rfl,cJ _⟩
  ·go_enter Tryz.func163,Tryz.ntmps163
   go_wp2_with fail
   go_ret
   exact⟨rfl,cJ _⟩
  ·have hv:Hid (IF op a 0=0):=by show _=_;unfold IF;rw[if_neg (by omega),if_neg (by omega)]
   have m1:(op==(42:Int))=false:=by simpa using n1
   have m2:(op==(43:Int))=false:=by simpa using n2
   have m3:(op==(44:Int))=false:=by simpa using n3
   have m4:(op==(45:Int))=false:=by simpa using n4
   clear n1 n2 n3 n4
   go_enter Tryz.func163,Tryz.ntmps163
   go_wp2_with fail
   go_ret
   exact⟨by rw[hv.out];rfl,cJ _⟩
 have m0:((b:Int)==0)=false:=by simp;omega
 rcases hc with hop|hop|hop|hop|⟨n1,n2,n3,n4⟩
 ·have hv:IF op a b=Bw op (kQ op a/kQ op b) (a^^^b):=by unfold IF;rw[if_pos (by omega),if_neg hb0]
  have ca:=λw=>Bg op a w ha;have cb:=λw=>Bg op b w hb;have la:=pX op a ha;have py:=yH op b hb hb0;have hy:=pX op b hb;have cbk:=λ(s bb:Nat) (w:World) (h1:s<4294967296) (h2:w.cell? ⟨bb,0,none⟩=some (.bool true))=>DP op s (a^^^b) bb w h1 hxl true (by subst hop;rfl) h2;rw[hv];clear hv;subst hop;generalize kQ 42 a=x at *;generalize kQ 42 b=y at *;generalize a^^^b=z at *;have hql:x/y<4294967296:=bM (fJ _ _) la;have hq:Hid ((x:Int)/y%4294967296=((x/y:Nat):Int)):=by
   show _=_;have:((x:Int)/y)=((x/y:Nat):Int):=rfl;rw[this];generalize x/y=q at *;omega
  have my:((y:Int)==0)=false:=by simp;omega
  go_enter Tryz.func163,Tryz.ntmps163
  go_wp2_with fail
  refine(ca _).mono ?_;rintro e w' ⟨rfl,rfl⟩
  go_wp2_with fail
  refine(cb _).mono ?_;rintro e w' ⟨rfl,rfl⟩
  go_wp2_with fail
  rw[hq.out];refine(cbk _ _ _ hql (by simp)).mono ?_;rintro e w' ⟨rfl,rfl⟩
  go_wp2_with fail
  go_ret
  exact⟨rfl,cJ _⟩
 ·have hv:IF op a b=Bw op (kQ op a/kQ op b) (a^^^b):=by unfold IF;rw[if_pos (by omega),if_neg hb0]
  have ca:=λw=>Bg op a w ha;have cb:=λw=>Bg op b w hb;have la:=pX op a ha;have py:=yH op b hb hb0;have hy:=pX op b hb;have cbk:=λ(s bb:Nat) (w:World) (h1:s<4294967296) (h2:w.cell? ⟨bb,0,none⟩=some (.bool false))=>DP op s (a^^^b) bb w h1 hxl false (by subst hop;rfl) h2;rw[hv];clear hv;subst hop;generalize kQ 43 a=x at *;generalize kQ 43 b=y at *;generalize a^^^b=z at *;have hql:x/y<4294967296:=bM (fJ _ _) la;have hq:Hid ((x:Int)/y%4294967296=((x/y:Nat):Int)):=by
   show _=_;have:((x:Int)/y)=((x/y:Nat):Int):=rfl;rw[this];generalize x/y=q at *;omega
  have my:((y:Int)==0)=false:=by simp;omega
  go_enter Tryz.func163,Tryz.ntmps163
  go_wp2_with fail
  refine(ca _).mono ?_;rintro e w' ⟨rfl,rfl⟩
  go_wp2_with fail
  refine(cb _).mono ?_;rintro e w' ⟨rfl,rfl⟩
  go_wp2_with fail
  rw[hq.out];refine(cbk _ _ _ hql (by simp)).mono ?_;rintro e w' ⟨rfl,rfl⟩
  go_wp2_with fail
  go_ret
  exact⟨rfl,cJ _⟩
 ·have hv:IF op a b=Bw op (kQ op a%kQ op b) a:=by unfold IF;rw[if_neg (by omega),if_pos (by omega),if_neg hb0]
  have ca:=λw=>Bg op a w ha;have cb:=λw=>Bg op b w hb;have la:=pX op a ha;have py:=yH op b hb hb0;have hy:=pX op b hb;have cbk:=λ(s bb:Nat) (w:World) (h1:s<4294967296) (h2:w.cell? ⟨bb,0,none⟩=some (.bool true))=>DP op s a bb w h1 ha true (by subst hop;rfl) h2;rw[hv];clear hv;subst hop;generalize kQ 44 a=x at *;generalize kQ 44 b=y at *;have hql:x%y<4294967296:=bM (oF _ _) la;have hq:Hid ((x:Int).tmod y=((x%y:Nat):Int)):=qD x y;have hq2:Hid ((x:Int)%y=((x%y:Nat):Int)):=rfl;have my:((y:Int)==0)=false:=by simp;omega
  go_enter Tryz.func163,Tryz.ntmps163
  go_wp2_with fail
  refine(ca _).mono ?_;rintro e w' ⟨rfl,rfl⟩
  go_wp2_with fail
  refine(cb _).mono ?_;rintro e w' ⟨rfl,rfl⟩
  go_wp2_with fail
  first|rw[hq.out]|rw[hq2.out]
  refine(cbk _ _ _ hql (by simp)).mono ?_;rintro e w' ⟨rfl,rfl⟩
  go_wp2_with fail
  go_ret
  exact⟨rfl,cJ _⟩
 ·have hv:IF op a b=Bw op (kQ op a%kQ op b) a:=by unfold IF;rw[if_neg (by omega),if_pos (by omega),if_neg hb0]
  have ca:=λw=>Bg op a w ha;have cb:=λw=>Bg op b w hb;have la:=pX op a ha;have py:=yH op b hb hb0;have hy:=pX op b hb;have cbk:=λ(s bb:Nat) (w:World) (h1:s<4294967296) (h2:w.cell? ⟨bb,0,none⟩=some (.bool false))=>DP op s a bb w h1 ha false (by subst hop;rfl) h2;rw[hv];clear hv;subst hop;generalize kQ 45 a=x at *;generalize kQ 45 b=y at *;have hql:x%y<4294967296:=bM (oF _ _) la;have hq:Hid ((x:Int).tmod y=((x%y:Nat):Int)):=qD x y;have hq2:Hid ((x:Int)%y=((x%y:Nat):Int)):=rfl;have my:((y:Int)==0)=false:=by simp;omega
  go_enter Tryz.func163,Tryz.ntmps163
  go_wp2_with fail
  refine(ca _).mono ?_;rintro e w' ⟨rfl,rfl⟩
  go_wp2_with fail
  refine(cb _).mono ?_;rintro e w' ⟨rfl,rfl⟩
  go_wp2_with fail
  first|rw[hq.out]|rw[hq2.out]
  refine(cbk _ _ _ hql (by simp)).mono ?_;rintro e w' ⟨rfl,rfl⟩
  go_wp2_with fail
  go_ret
  exact⟨rfl,cJ _⟩
 ·have hv:Hid (IF op a b=0):=by show _=_;unfold IF;rw[if_neg (by omega),if_neg (by omega)]
  have m1:(op==(42:Int))=false:=by simpa using n1
  have m2:(op==(43:Int))=false:=by simpa using n2
  have m3:(op==(44:Int))=false:=by simpa using n3
  have m4:(op==(45:Int))=false:=by simpa using n4
  clear n1 n2 n3 n4
  go_enter Tryz.func163,Tryz.ntmps163
  go_wp2_with fail
  go_ret
  exact⟨by rw[hv.out];rfl,cJ _⟩
def Xd(op:Int):Bool:=decide (op=1)||((decide (11<=op)&&decide (op<=15))||(decide (19<=op)&&decide (op<=27)))
set_option maxHeartbeats 2000000 in
theorem Ij(op:Int)(w:World):Calls Tryz.prog 164 #[.int .i64 op] w λe w'=>e=.returned (.bool (Xd op))∧w=w':=by
 have hc:(op=1)∨(op≠1∧op<11)∨(11<=op∧op<=15)∨(16<=op∧op<19)∨(19<=op∧op<=27)∨28<=op:=by omega
 rcases hc with rfl|⟨h1,h2⟩|⟨h1,h2⟩|⟨h1,h2⟩|⟨h1,h2⟩|h1
 ·go_enter Tryz.func164,Tryz.ntmps164
  go_wp2_with fail
  go_ret
  exact⟨rfl,rfl⟩
 all_goals
  have hv:Hid (Xd op=((decide (11<=op)&&decide (op<=15))||(decide (19<=op)&&decide (op<=27)))):=by
   show _=_;unfold Xd;rw[show decide (op=1)=false by simp;omega,eG]
  have e1:(op==(1:Int))=false:=by simp;omega
 ·have d1:decide (11<=op)=false:=by simp;omega
  have d2:decide (19<=op)=false:=by simp;omega
  clear h1 h2
  go_enter Tryz.func164,Tryz.ntmps164
  go_wp2_with fail
  go_ret
  exact⟨by rw[hv.out,d1,d2];rfl,rfl⟩
 ·have d1:decide (11<=op)=true:=by simp;omega
  have d2:decide (op<=15)=true:=by simp;omega
  go_enter Tryz.func164,Tryz.ntmps164
  go_wp2_with fail
  go_ret
  exact⟨by rw[hv.out,d1,d2];rfl,rfl⟩
 ·have d1:decide (11<=op)=true:=by simp;omega
  have d2:decide (op<=15)=false:=by simp;omega
  have d3:decide (19<=op)=false:=by simp;omega
  clear h1 h2
  go_enter Tryz.func164,Tryz.ntmps164
  go_wp2_with fail
  go_ret
  exact⟨by rw[hv.out,d1,d2,d3];rfl,rfl⟩
 ·have d1:decide (11<=op)=true:=by simp;omega
  have d2:decide (op<=15)=false:=by simp;omega
  have d3:decide (19<=op)=true:=by simp;omega
  have d4:decide (op<=27)=true:=by simp;omega
  clear h1 h2
  go_enter Tryz.func164,Tryz.ntmps164
  go_wp2_with fail
  go_ret
  exact⟨by rw[hv.out,d1,d2,d3,d4];rfl,rfl⟩
 ·have d1:decide (11<=op)=true:=by simp;omega
  have d2:decide (op<=15)=false:=by simp;omega
  have d3:decide (19<=op)=true:=by simp;omega
  have d4:decide (op<=27)=false:=by simp;omega
  clear h1
  go_enter Tryz.func164,Tryz.ntmps164
  go_wp2_with fail
  go_ret
  exact⟨by rw[hv.out,d1,d2,d3,d4];rfl,rfl⟩
end Go.Proofs.YtgleompefdogkaaGreatDoor
