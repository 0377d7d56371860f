/- Joined texts. -/
import Derived.Deep.DeepCutAuto
import Derived.Test.YtlhofpglndhfaaaGreatDoorS201
import Derived.Test.YtlhofpglndhfaaaGreatDoorS212
import Derived.Test.YtlhofpglndhfaaaGreatDoorS213
set_option linter.unusedVariables false
set_option linter.unusedSimpArgs false
namespace Go.Proofs.YtlhofpglndhfaaaGreatDoor
open Go.RowKit
theorem MC(op:Int)(s x:Nat)(h:s<4294967296):Bf op s x<4294967296:=by unfold Bf;split<;>omega
theorem Wl(op:Int)(a b:Nat)(ha:a<4294967296)(hb:b<4294967296):IC op a b<4294967296:=by
 have l1:=pR op a ha;unfold IC;split
 ·split
  ·omega
  ·exact MC _ _ _ (bI (fJ _ _) l1)
 ·split
  ·split
   ·omega
   ·exact MC _ _ _ (bI (oA _ _) l1)
  ·omega
set_option maxHeartbeats 4000000 in
theorem DF(op:Int)(s x b:Nat)(w:World)(hs:s<4294967296)(hx:x<4294967296)(sg:Bool)(hsg:sg=decide (op=42∨op=44))(hc:w.cell? ⟨b,0,none⟩=some (.bool sg)):
  Calls Tryz.prog 234 #[.int .u32 s,.int .u32 x,.pointer (some ⟨b,0,none⟩)] w λ e w'=>e=.returned (.int .u32 (Bf op s x))∧w=w':=by
 have wx:=wF x hx;have hs2:(2147483648≤x→decide (sgn x<0)=true)∧(x<2147483648→decide (sgn x<0)=false):=by
  unfold sgn;constructor
  ·intro h;rw[if_neg (by omega)];simp;omega
  ·intro h;rw[if_pos (by omega)];simp
 have hb:=Lib.hid hs2;clear hs2
 cases sg with
 | false=>
  have hv:Hid (Bf op s x=s):=by
   show _=_;unfold Bf;have: ¬ (op=42∨op=44):=aE hsg.symm;rw[if_neg (λ h=>this h.1)]
  clear hsg
  go_enter Tryz.func234,Tryz.ntmps234
  go_wp2_with fail
  go_ret
  exact⟨by rw[hv.out];rfl,rfl⟩
 | true=>
  have hop:op=42∨op=44:=of_decide_eq_true hsg.symm;clear hsg;by_cases h:2147483648≤x
  ·have hd:=hb.out.1 h;have hv:Hid (Bf op s x=(4294967296 - s) % 4294967296):=by show _=_;unfold Bf;rw[if_pos ⟨hop,h⟩]
   clear hop
   go_enter Tryz.func234,Tryz.ntmps234
   go_wp2_with fail
   go_ret
   refine⟨gJ ?_,rfl⟩;rw[hv.out];omega
  ·have hd:=hb.out.2 (by omega);have hv:Hid (Bf op s x=s):=by show _=_;unfold Bf;rw[if_neg (λ q=>h q.2)]
   clear hop
   go_enter Tryz.func234,Tryz.ntmps234
   go_wp2_with fail
   go_ret
   exact⟨by rw[hv.out];rfl,rfl⟩
set_option maxHeartbeats 8000000 in
theorem NN(op:Int)(a b:Nat)(w:World)(ha:a<4294967296)(hb:b<4294967296):Calls Tryz.prog 224 #[.int .i64 op,.int .u32 a,.int .u32 b] w λ e w'=>e=.returned (.int .u32 (IC op a b))∧Below w.heap.size w w':=by
 have hx:=u32_xor_nat a b ha hb;have hxl:a ^^^ b<4294967296:=mH (n:=32) ha hb;have hc:op=42∨op=43∨op=44∨op=45∨(op≠42∧op≠43∧op≠44∧op≠45):=by omega
 by_cases hb0:b=0
 ·subst hb0;rcases hc with rfl|rfl|rfl|rfl|⟨n1,n2,n3,n4⟩
  ·go_enter Tryz.func224,Tryz.ntmps224
   go_wp2_with fail
   go_ret
   exact⟨rfl,cC _⟩
  ·go_enter Tryz.func224,Tryz.ntmps224
   go_wp2_with fail
   go_ret
   exact⟨rfl,cC _⟩
  ·go_enter Tryz.func224,Tryz.ntmps224
   go_wp2_with fail
   go_ret
   exact⟨rfl,cC _⟩
  ·go_enter Tryz.func224,Tryz.ntmps224
   go_wp2_with fail
   go_ret
   exact⟨rfl,cC _⟩
  ·have hv:Hid (IC op a 0=0):=by show _=_;unfold IC;rw[if_neg (by omega),if_neg (by omega)]
   have m1:(op==(42:Int))=false:=by simpa using n1
   have m2:(op==(43:Int))=false:=by simpa using n2
   have m3:(op==(44:Int))=false:=by simpa using n3
   have m4:(op==(45:Int))=false:=by simpa using n4
   clear n1 n2 n3 n4
   go_enter Tryz.func224,Tryz.ntmps224
   go_wp2_with fail
   go_ret
   exact⟨by rw[hv.out];rfl,cC _⟩
 have m0:((b:Int)==0)=false:=by simp;omega
 rcases hc with hop|hop|hop|hop|⟨n1,n2,n3,n4⟩
 ·have hv:IC op a b=Bf op (kL op a / kL op b) (a ^^^ b):=by unfold IC;rw[if_pos (by omega),if_neg hb0]
  have ca:=λ w=>AQ op a w ha;have cb:=λ w=>AQ op b w hb;have la:=pR op a ha;have py:=xQ op b hb hb0;have hy:=pR op b hb;have cbk:=λ (s bb:Nat) (w:World) (h1:s<4294967296) (h2:w.cell? ⟨bb,0,none⟩=some (.bool true))=>DF op s (a ^^^ b) bb w h1 hxl true (by subst hop;rfl) h2;rw[hv];clear hv;subst hop;generalize kL 42 a=x at *;generalize kL 42 b=y at *;generalize a ^^^ b=z at *;have hql:x / y<4294967296:=bI (fJ _ _) la;have hq:Hid ((x:Int) / y % 4294967296=((x / y:Nat):Int)):=by
   show _=_;have:((x:Int) / y)=((x / y:Nat):Int):=rfl;rw[this];generalize x / y=q at *;omega
  have my:((y:Int)==0)=false:=by simp;omega
  go_enter Tryz.func224,Tryz.ntmps224
  go_wp2_with fail
  refine (ca _).mono ?_;rintro e w' ⟨rfl,rfl⟩
  go_wp2_with fail
  refine (cb _).mono ?_;rintro e w' ⟨rfl,rfl⟩
  go_wp2_with fail
  rw[hq.out];refine (cbk _ _ _ hql (by simp)).mono ?_;rintro e w' ⟨rfl,rfl⟩
  go_wp2_with fail
  go_ret
  exact⟨rfl,cC _⟩
 ·have hv:IC op a b=Bf op (kL op a / kL op b) (a ^^^ b):=by unfold IC;rw[if_pos (by omega),if_neg hb0]
  have ca:=λ w=>AQ op a w ha;have cb:=λ w=>AQ op b w hb;have la:=pR op a ha;have py:=xQ op b hb hb0;have hy:=pR op b hb;have cbk:=λ (s bb:Nat) (w:World) (h1:s<4294967296) (h2:w.cell? ⟨bb,0,none⟩=some (.bool false))=>DF op s (a ^^^ b) bb w h1 hxl false (by subst hop;rfl) h2;rw[hv];clear hv;subst hop;generalize kL 43 a=x at *;generalize kL 43 b=y at *;generalize a ^^^ b=z at *;have hql:x / y<4294967296:=bI (fJ _ _) la;have hq:Hid ((x:Int) / y % 4294967296=((x / y:Nat):Int)):=by
   show _=_;have:((x:Int) / y)=((x / y:Nat):Int):=rfl;rw[this];generalize x / y=q at *;omega
  have my:((y:Int)==0)=false:=by simp;omega
  go_enter Tryz.func224,Tryz.ntmps224
  go_wp2_with fail
  refine (ca _).mono ?_;rintro e w' ⟨rfl,rfl⟩
  go_wp2_with fail
  refine (cb _).mono ?_;rintro e w' ⟨rfl,rfl⟩
  go_wp2_with fail
  rw[hq.out];refine (cbk _ _ _ hql (by simp)).mono ?_;rintro e w' ⟨rfl,rfl⟩
  go_wp2_with fail
  go_ret
  exact⟨rfl,cC _⟩
 ·have hv:IC op a b=Bf op (kL op a % kL op b) a:=by unfold IC;rw[if_neg (by omega),if_pos (by omega),if_neg hb0]
  have ca:=λ w=>AQ op a w ha;have cb:=λ w=>AQ op b w hb;have la:=pR op a ha;have py:=xQ op b hb hb0;have hy:=pR op b hb;have cbk:=λ (s bb:Nat) (w:World) (h1:s<4294967296) (h2:w.cell? ⟨bb,0,none⟩=some (.bool true))=>DF op s a bb w h1 ha true (by subst hop;rfl) h2;rw[hv];clear hv;subst hop;generalize kL 44 a=x at *;generalize kL 44 b=y at *;have hql:x % y<4294967296:=bI (oA _ _) la;have hq:Hid ((x:Int).tmod y=((x % y:Nat):Int)):=pW x y;have hq2:Hid ((x:Int) % y=((x % y:Nat):Int)):=rfl;have my:((y:Int)==0)=false:=by simp;omega
  go_enter Tryz.func224,Tryz.ntmps224
  go_wp2_with fail
  refine (ca _).mono ?_;rintro e w' ⟨rfl,rfl⟩
  go_wp2_with fail
  refine (cb _).mono ?_;rintro e w' ⟨rfl,rfl⟩
  go_wp2_with fail
  first|rw[hq.out]|rw[hq2.out]
  refine (cbk _ _ _ hql (by simp)).mono ?_;rintro e w' ⟨rfl,rfl⟩
  go_wp2_with fail
  go_ret
  exact⟨rfl,cC _⟩
 ·have hv:IC op a b=Bf op (kL op a % kL op b) a:=by unfold IC;rw[if_neg (by omega),if_pos (by omega),if_neg hb0]
  have ca:=λ w=>AQ op a w ha;have cb:=λ w=>AQ op b w hb;have la:=pR op a ha;have py:=xQ op b hb hb0;have hy:=pR op b hb;have cbk:=λ (s bb:Nat) (w:World) (h1:s<4294967296) (h2:w.cell? ⟨bb,0,none⟩=some (.bool false))=>DF op s a bb w h1 ha false (by subst hop;rfl) h2;rw[hv];clear hv;subst hop;generalize kL 45 a=x at *;generalize kL 45 b=y at *;have hql:x % y<4294967296:=bI (oA _ _) la;have hq:Hid ((x:Int).tmod y=((x % y:Nat):Int)):=pW x y;have hq2:Hid ((x:Int) % y=((x % y:Nat):Int)):=rfl;have my:((y:Int)==0)=false:=by simp;omega
  go_enter Tryz.func224,Tryz.ntmps224
  go_wp2_with fail
  refine (ca _).mono ?_;rintro e w' ⟨rfl,rfl⟩
  go_wp2_with fail
  refine (cb _).mono ?_;rintro e w' ⟨rfl,rfl⟩
  go_wp2_with fail
  first|rw[hq.out]|rw[hq2.out]
  refine (cbk _ _ _ hql (by simp)).mono ?_;rintro e w' ⟨rfl,rfl⟩
  go_wp2_with fail
  go_ret
  exact⟨rfl,cC _⟩
 ·have hv:Hid (IC op a b=0):=by show _=_;unfold IC;rw[if_neg (by omega),if_neg (by omega)]
  have m1:(op==(42:Int))=false:=by simpa using n1
  have m2:(op==(43:Int))=false:=by simpa using n2
  have m3:(op==(44:Int))=false:=by simpa using n3
  have m4:(op==(45:Int))=false:=by simpa using n4
  clear n1 n2 n3 n4
  go_enter Tryz.func224,Tryz.ntmps224
  go_wp2_with fail
  go_ret
  exact⟨by rw[hv.out];rfl,cC _⟩
def Xk(op:Int):Bool:=decide (op=1)||((decide (11≤op)&&decide (op≤15))||(decide (19≤op)&&decide (op≤27)))
set_option maxHeartbeats 2000000 in
theorem Ih(op:Int)(w:World):Calls Tryz.prog 225 #[.int .i64 op] w λ e w'=>e=.returned (.bool (Xk op))∧w=w':=by
 have hc:(op=1)∨(op≠1∧op<11)∨(11≤op∧op≤15)∨(16≤op∧op<19)∨(19≤op∧op≤27)∨28≤op:=by omega
 rcases hc with rfl|⟨h1,h2⟩|⟨h1,h2⟩|⟨h1,h2⟩|⟨h1,h2⟩|h1
 ·go_enter Tryz.func225,Tryz.ntmps225
  go_wp2_with fail
  go_ret
  exact⟨rfl,rfl⟩
 all_goals
  have hv:Hid (Xk op=((decide (11≤op)&&decide (op≤15))||(decide (19≤op)&&decide (op≤27)))):=by
   show _=_;unfold Xk;rw[show decide (op=1)=false by simp;omega,eL]
  have e1:(op==(1:Int))=false:=by simp;omega
 ·have d1:decide (11≤op)=false:=by simp;omega
  have d2:decide (19≤op)=false:=by simp;omega
  clear h1 h2
  go_enter Tryz.func225,Tryz.ntmps225
  go_wp2_with fail
  go_ret
  exact⟨by rw[hv.out,d1,d2];rfl,rfl⟩
 ·have d1:decide (11≤op)=true:=by simp;omega
  have d2:decide (op≤15)=true:=by simp;omega
  go_enter Tryz.func225,Tryz.ntmps225
  go_wp2_with fail
  go_ret
  exact⟨by rw[hv.out,d1,d2];rfl,rfl⟩
 ·have d1:decide (11≤op)=true:=by simp;omega
  have d2:decide (op≤15)=false:=by simp;omega
  have d3:decide (19≤op)=false:=by simp;omega
  clear h1 h2
  go_enter Tryz.func225,Tryz.ntmps225
  go_wp2_with fail
  go_ret
  exact⟨by rw[hv.out,d1,d2,d3];rfl,rfl⟩
 ·have d1:decide (11≤op)=true:=by simp;omega
  have d2:decide (op≤15)=false:=by simp;omega
  have d3:decide (19≤op)=true:=by simp;omega
  have d4:decide (op≤27)=true:=by simp;omega
  clear h1 h2
  go_enter Tryz.func225,Tryz.ntmps225
  go_wp2_with fail
  go_ret
  exact⟨by rw[hv.out,d1,d2,d3,d4];rfl,rfl⟩
 ·have d1:decide (11≤op)=true:=by simp;omega
  have d2:decide (op≤15)=false:=by simp;omega
  have d3:decide (19≤op)=true:=by simp;omega
  have d4:decide (op≤27)=false:=by simp;omega
  clear h1
  go_enter Tryz.func225,Tryz.ntmps225
  go_wp2_with fail
  go_ret
  exact⟨by rw[hv.out,d1,d2,d3,d4];rfl,rfl⟩
end Go.Proofs.YtlhofpglndhfaaaGreatDoor
