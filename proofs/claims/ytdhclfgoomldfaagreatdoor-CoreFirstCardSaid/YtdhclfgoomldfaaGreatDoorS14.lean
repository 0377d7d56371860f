/- Lemmas. -/
import Derived.Deep.DeepCutAuto
import Derived.Test.YtdhclfgoomldfaaGreatDoorS1
import Derived.Test.YtdhclfgoomldfaaGreatDoorS12
import Derived.Test.YtdhclfgoomldfaaGreatDoorS13
set_option linter.all false
namespace Go.Proofs.YtdhclfgoomldfaaGreatDoor
open Go.Proofs.Tryz
open Go.RowKit
def Nw(a)(s x)(h:s<4294967296):zI a s x<4294967296:=by unfold zI;split<;>omega
def XC(d)(a b)(e:a<4294967296)(f:b<4294967296):eg d a b<4294967296:=by
 have c:=pT d a e;unfold eg;split
 ·split
  ·omega
  exact Nw _ _ _ (bL (cO _ _) c)
 split
 ·split
  ·omega
  exact Nw _ _ _ (bL (gR _ _) c)
 omega
set_option maxHeartbeats 4000000 in
theorem Ee(op)(s x b:Nat)(w)(hs:s<4294967296)(hx:x<4294967296)(sg)(hsg:sg=decide (op=42∨op=44))(hc:w.cell? ⟨b,0,none⟩=some (.bool sg)):
  Calls Tryz.prog 191 #[.int .u32 s,.int .u32 x,.pointer (some ⟨b,0,none⟩)] w λe w'=>e=.returned (.int .u32 (zI op s x))∧w=w':=by
 have wx:=xD x hx;have hs2:(2147483648<=x->decide (bs x<0)=true)∧(x<2147483648->decide (bs x<0)=false):=by
  unfold bs;constructor
  ·intro h;rw[dZ oT];simp;omega
  ·intro h;rw[aa oT];simp
 have hb:=Lib.hid hs2;clear hs2
 cases sg with
 | false=>
  have hv:Hid (zI op s x=s):=by
   show _=_;unfold zI;have: ¬(op=42∨op=44):=aF hsg.symm;rw[dZ (λh=>this h.1)]
  clear hsg
  go_enter func191,ntmps191
  go_wp2_with fail
  go_ret
  exact⟨by rw[hv.out];rfl,rfl⟩
 | true=>
  have hop:op=42∨op=44:=bj hsg.symm;clear hsg;by_cases h:2147483648<=x
  ·have hd:=hb.out.1 h;have hv:Hid (zI op s x=(4294967296-s)%4294967296):=by show _=_;unfold zI;rw[aa ⟨hop,h⟩]
   clear hop
   go_enter func191,ntmps191
   go_wp2_with fail
   go_ret
   refine⟨gH ?_,rfl⟩;rw[hv.out];omega
  ·have hd:=hb.out.2 oT;have hv:Hid (zI op s x=s):=by show _=_;unfold zI;rw[dZ (λq=>h q.2)]
   clear hop
   go_enter func191,ntmps191
   go_wp2_with fail
   go_ret
   exact⟨by rw[hv.out];rfl,rfl⟩
set_option maxHeartbeats 8000000 in
theorem OW(op)(a b:Nat)(w)(ha:a<4294967296)(hb:b<4294967296):Calls Tryz.prog 178 #[.int .i64 op,.int .u32 a,.int .u32 b] w λe w'=>e=.returned (.int .u32 (eg op a b))∧Below w.heap.size w w':=by
 have hx:=u32_xor_nat a b ha hb;have hxl:a^^^b<4294967296:=iM (n:=32) ha hb;have hc:op=42∨op=43∨op=44∨op=45∨(op≠42∧op≠43∧op≠44∧op≠45):=oT;by_cases hb0:b=0
 ·subst hb0;rcases hc with rfl|rfl|rfl|rfl|⟨n1,n2,n3,n4⟩
  ·go_enter func178,ntmps178
   go_wp2_with fail
   go_ret
   exact⟨rfl,cK _⟩
  ·go_enter func178,ntmps178
   go_wp2_with fail
   go_ret
   exact⟨rfl,cK _⟩
  ·go_enter func178,ntmps178
   go_wp2_with fail
   go_ret
   exact⟨rfl,cK _⟩
  ·go_enter func178,ntmps178
   go_wp2_with fail
   go_ret
   exact⟨rfl,cK _⟩
  ·have hv:Hid (eg op a 0=0):=by show _=_;unfold eg;rw[dZ oT,dZ oT]
   have m1:(op==(42:Int))=false:=sU n1;have m2:(op==(43:Int))=false:=sU n2;have m3:(op==(44:Int))=false:=sU n3;have m4:(op==(45:Int))=false:=sU n4;clear n1 n2 n3 n4
   go_enter func178,ntmps178
   go_wp2_with fail
   go_ret
   exact⟨by rw[hv.out];rfl,cK _⟩
 have m0:((b:Int)==0)=false:=by simp;omega
 rcases hc with hop|hop|hop|hop|⟨n1,n2,n3,n4⟩
 ·have hv:eg op a b=zI op (b_ op a/b_ op b) (a^^^b):=by unfold eg;rw[aa oT,dZ hb0]
  have ca:=λw=>Bp op a w ha;have cb:=λw=>Bp op b w hb;have la:=pT op a ha;have py:=yJ op b hb hb0;have hy:=pT op b hb;have cbk:=λ(s bb:Nat) (w:World) (h1:s<4294967296) (h2:w.cell? ⟨bb,0,none⟩=some (.bool true))=>Ee op s (a^^^b) bb w h1 hxl true (by subst hop;rfl) h2;rw[hv];clear hv;subst hop;generalize b_ 42 a=x at *;generalize b_ 42 b=y at *;generalize a^^^b=z at *;have hql:x/y<4294967296:=bL (cO _ _) la;have hq:Hid ((x:Int)/y%4294967296=((x/y:Nat):Int)):=by
   show _=_;have:((x:Int)/y)=((x/y:Nat):Int):=rfl;rw[this];generalize x/y=q at *;omega
  have my:((y:Int)==0)=false:=by simp;omega
  go_enter func178,ntmps178
  go_wp2_with fail
  apply(ca _).mono;rintro e w' ⟨rfl,rfl⟩
  go_wp2_with fail
  apply(cb _).mono;rintro e w' ⟨rfl,rfl⟩
  go_wp2_with fail
  rw[hq.out];apply(cbk _ _ _ hql (by simp)).mono;rintro e w' ⟨rfl,rfl⟩
  go_wp2_with fail
  go_ret
  exact⟨rfl,cK _⟩
 ·have hv:eg op a b=zI op (b_ op a/b_ op b) (a^^^b):=by unfold eg;rw[aa oT,dZ hb0]
  have ca:=λw=>Bp op a w ha;have cb:=λw=>Bp op b w hb;have la:=pT op a ha;have py:=yJ op b hb hb0;have hy:=pT op b hb;have cbk:=λ(s bb:Nat) (w:World) (h1:s<4294967296) (h2:w.cell? ⟨bb,0,none⟩=some (.bool false))=>Ee op s (a^^^b) bb w h1 hxl false (by subst hop;rfl) h2;rw[hv];clear hv;subst hop;generalize b_ 43 a=x at *;generalize b_ 43 b=y at *;generalize a^^^b=z at *;have hql:x/y<4294967296:=bL (cO _ _) la;have hq:Hid ((x:Int)/y%4294967296=((x/y:Nat):Int)):=by
   show _=_;have:((x:Int)/y)=((x/y:Nat):Int):=rfl;rw[this];generalize x/y=q at *;omega
  have my:((y:Int)==0)=false:=by simp;omega
  go_enter func178,ntmps178
  go_wp2_with fail
  apply(ca _).mono;rintro e w' ⟨rfl,rfl⟩
  go_wp2_with fail
  apply(cb _).mono;rintro e w' ⟨rfl,rfl⟩
  go_wp2_with fail
  rw[hq.out];apply(cbk _ _ _ hql (by simp)).mono;rintro e w' ⟨rfl,rfl⟩
  go_wp2_with fail
  go_ret
  exact⟨rfl,cK _⟩
 ·have hv:eg op a b=zI op (b_ op a%b_ op b) a:=by unfold eg;rw[dZ oT,aa oT,dZ hb0]
  have ca:=λw=>Bp op a w ha;have cb:=λw=>Bp op b w hb;have la:=pT op a ha;have py:=yJ op b hb hb0;have hy:=pT op b hb;have cbk:=λ(s bb:Nat) (w:World) (h1:s<4294967296) (h2:w.cell? ⟨bb,0,none⟩=some (.bool true))=>Ee op s a bb w h1 ha true (by subst hop;rfl) h2;rw[hv];clear hv;subst hop;generalize b_ 44 a=x at *;generalize b_ 44 b=y at *;have hql:x%y<4294967296:=bL (gR _ _) la;have hq:Hid ((x:Int).tmod y=((x%y:Nat):Int)):=pY x y;have hq2:Hid ((x:Int)%y=((x%y:Nat):Int)):=rfl;have my:((y:Int)==0)=false:=by simp;omega
  go_enter func178,ntmps178
  go_wp2_with fail
  apply(ca _).mono;rintro e w' ⟨rfl,rfl⟩
  go_wp2_with fail
  apply(cb _).mono;rintro e w' ⟨rfl,rfl⟩
  go_wp2_with fail
  first|rw[hq.out]|rw[hq2.out]
  apply(cbk _ _ _ hql (by simp)).mono;rintro e w' ⟨rfl,rfl⟩
  go_wp2_with fail
  go_ret
  exact⟨rfl,cK _⟩
 ·have hv:eg op a b=zI op (b_ op a%b_ op b) a:=by unfold eg;rw[dZ oT,aa oT,dZ hb0]
  have ca:=λw=>Bp op a w ha;have cb:=λw=>Bp op b w hb;have la:=pT op a ha;have py:=yJ op b hb hb0;have hy:=pT op b hb;have cbk:=λ(s bb:Nat) (w:World) (h1:s<4294967296) (h2:w.cell? ⟨bb,0,none⟩=some (.bool false))=>Ee op s a bb w h1 ha false (by subst hop;rfl) h2;rw[hv];clear hv;subst hop;generalize b_ 45 a=x at *;generalize b_ 45 b=y at *;have hql:x%y<4294967296:=bL (gR _ _) la;have hq:Hid ((x:Int).tmod y=((x%y:Nat):Int)):=pY x y;have hq2:Hid ((x:Int)%y=((x%y:Nat):Int)):=rfl;have my:((y:Int)==0)=false:=by simp;omega
  go_enter func178,ntmps178
  go_wp2_with fail
  apply(ca _).mono;rintro e w' ⟨rfl,rfl⟩
  go_wp2_with fail
  apply(cb _).mono;rintro e w' ⟨rfl,rfl⟩
  go_wp2_with fail
  first|rw[hq.out]|rw[hq2.out]
  apply(cbk _ _ _ hql (by simp)).mono;rintro e w' ⟨rfl,rfl⟩
  go_wp2_with fail
  go_ret
  exact⟨rfl,cK _⟩
 ·have hv:Hid (eg op a b=0):=by show _=_;unfold eg;rw[dZ oT,dZ oT]
  have m1:(op==(42:Int))=false:=sU n1;have m2:(op==(43:Int))=false:=sU n2;have m3:(op==(44:Int))=false:=sU n3;have m4:(op==(45:Int))=false:=sU n4;clear n1 n2 n3 n4
  go_enter func178,ntmps178
  go_wp2_with fail
  go_ret
  exact⟨by rw[hv.out];rfl,cK _⟩
def UB(a:Int):Bool:=decide (a=1)||((decide (11<=a)&&decide (a<=15))||(decide (19<=a)&&decide (a<=27)))
set_option maxHeartbeats 2000000 in
theorem IL(op)(w):Calls Tryz.prog 179 #[.int .i64 op] w λe w'=>e=.returned (.bool (UB op))∧w=w':=by
 have hc:(op=1)∨(op≠1∧op<11)∨(11<=op∧op<=15)∨(16<=op∧op<19)∨(19<=op∧op<=27)∨28<=op:=oT;rcases hc with rfl|⟨h1,h2⟩|⟨h1,h2⟩|⟨h1,h2⟩|⟨h1,h2⟩|h1
 ·go_enter func179,ntmps179
  go_wp2_with fail
  go_ret
  exact⟨rfl,rfl⟩
 all_goals
  have hv:Hid (UB op=((decide (11<=op)&&decide (op<=15))||(decide (19<=op)&&decide (op<=27)))):=by
   show _=_;unfold UB;rw[show decide (op=1)=false by simp;omega,jD]
  have e1:(op==(1:Int))=false:=by simp;omega
 ·have d1:decide (11<=op)=false:=by simp;omega
  have d2:decide (19<=op)=false:=by simp;omega
  clear h1 h2
  go_enter func179,ntmps179
  go_wp2_with fail
  go_ret
  exact⟨by rw[hv.out,d1,d2];rfl,rfl⟩
 ·have d1:decide (11<=op)=true:=by simp;omega
  have d2:decide (op<=15)=true:=by simp;omega
  go_enter func179,ntmps179
  go_wp2_with fail
  go_ret
  exact⟨by rw[hv.out,d1,d2];rfl,rfl⟩
 ·have d1:decide (11<=op)=true:=by simp;omega
  have d2:decide (op<=15)=false:=by simp;omega
  have d3:decide (19<=op)=false:=by simp;omega
  clear h1 h2
  go_enter func179,ntmps179
  go_wp2_with fail
  go_ret
  exact⟨by rw[hv.out,d1,d2,d3];rfl,rfl⟩
 ·have d1:decide (11<=op)=true:=by simp;omega
  have d2:decide (op<=15)=false:=by simp;omega
  have d3:decide (19<=op)=true:=by simp;omega
  have d4:decide (op<=27)=true:=by simp;omega
  clear h1 h2
  go_enter func179,ntmps179
  go_wp2_with fail
  go_ret
  exact⟨by rw[hv.out,d1,d2,d3,d4];rfl,rfl⟩
 ·have d1:decide (11<=op)=true:=by simp;omega
  have d2:decide (op<=15)=false:=by simp;omega
  have d3:decide (19<=op)=true:=by simp;omega
  have d4:decide (op<=27)=false:=by simp;omega
  clear h1
  go_enter func179,ntmps179
  go_wp2_with fail
  go_ret
  exact⟨by rw[hv.out,d1,d2,d3,d4];rfl,rfl⟩
end Go.Proofs.YtdhclfgoomldfaaGreatDoor
