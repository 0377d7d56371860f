/- Lemmas. -/
import Derived.Deep.DeepCutAuto
import Derived.Test.YtlpkggpdjobpmaaGreatDoorS1
import Derived.Test.YtlpkggpdjobpmaaGreatDoorS12
import Derived.Test.YtlpkggpdjobpmaaGreatDoorS13
set_option linter.all false
namespace Go.Proofs.YtlpkggpdjobpmaaGreatDoor
open Go.Proofs.Tryz
open Go.RowKit
def Nw(op)(s x)(h:s<4294967296):zI op s x<4294967296:=by unfold zI;split<;>omega
def XC(op)(a b)(ha:a<4294967296)(hb:b<4294967296):divP op a b<4294967296:=by
 have l1:=pT op a ha;unfold divP;split
 ·split
  ·omega
  exact Nw _ _ _ (bL (cO _ _) l1)
 split
 ·split
  ·omega
  exact Nw _ _ _ (bL (gR _ _) l1)
 omega
set_option maxHeartbeats 4000000 in
theorem Ee(op)(s x b:Nat)(w)(hs:s<4294967296)(hx:x<4294967296)(sg)(hsg:sg=decide (op=42∨op=44))(hc:w.cell? ⟨b,0,none⟩=some (.bool sg)):
  Calls Tryz.prog 190 #[.int .u32 s,.int .u32 x,.pointer (some ⟨b,0,none⟩)] w λe w'=>e=.returned (.int .u32 (zI op s x))∧w=w':=by
 have wx:=xD x hx;have hs2:(2147483648<=x->decide (sgn x<0)=true)∧(x<2147483648->decide (sgn x<0)=false):=by
  unfold sgn;constructor
  ·intro h;rw[dZ oT];simp;omega
  ·intro h;rw[af1 oT];simp
 have hb:=Lib.hid hs2;clear hs2
 cases sg with
 | false=>
  have hv:Hid (zI op s x=s):=by
   show _=_;unfold zI;have: ¬(op=42∨op=44):=aF hsg.symm;rw[dZ (λh=>this h.1)]
  clear hsg
  go_enter func190,ntmps190
  go_wp2_with fail
  go_ret
  exact⟨by rw[hv.out];rfl,rfl⟩
 | true=>
  have hop:op=42∨op=44:=af0 hsg.symm;clear hsg;by_cases h:2147483648<=x
  ·have hd:=hb.out.1 h;have hv:Hid (zI op s x=(4294967296-s)%4294967296):=by show _=_;unfold zI;rw[af1 ⟨hop,h⟩]
   clear hop
   go_enter func190,ntmps190
   go_wp2_with fail
   go_ret
   refine⟨gH ?_,rfl⟩;rw[hv.out];omega
  ·have hd:=hb.out.2 oT;have hv:Hid (zI op s x=s):=by show _=_;unfold zI;rw[dZ (λq=>h q.2)]
   clear hop
   go_enter func190,ntmps190
   go_wp2_with fail
   go_ret
   exact⟨by rw[hv.out];rfl,rfl⟩
set_option maxHeartbeats 8000000 in
theorem OW(op)(a b:Nat)(w)(ha:a<4294967296)(hb:b<4294967296):Calls Tryz.prog 177 #[.int .i64 op,.int .u32 a,.int .u32 b] w λe w'=>e=.returned (.int .u32 (divP op a b))∧Below w.heap.size w w':=by
 have hx:=u32_xor_nat a b ha hb;have hxl:a^^^b<4294967296:=iM (n:=32) ha hb;have hc:op=42∨op=43∨op=44∨op=45∨(op≠42∧op≠43∧op≠44∧op≠45):=oT;by_cases hb0:b=0
 ·subst hb0;rcases hc with rfl|rfl|rfl|rfl|⟨n1,n2,n3,n4⟩
  ·go_enter func177,ntmps177
   go_wp2_with fail
   go_ret
   exact⟨rfl,cK _⟩
  ·go_enter func177,ntmps177
   go_wp2_with fail
   go_ret
   exact⟨rfl,cK _⟩
  ·go_enter func177,ntmps177
   go_wp2_with fail
   go_ret
   exact⟨rfl,cK _⟩
  ·go_enter func177,ntmps177
   go_wp2_with fail
   go_ret
   exact⟨rfl,cK _⟩
  ·have hv:Hid (divP op a 0=0):=by show _=_;unfold divP;rw[dZ oT,dZ oT]
   have m1:(op==(42:Int))=false:=sU n1;have m2:(op==(43:Int))=false:=sU n2;have m3:(op==(44:Int))=false:=sU n3;have m4:(op==(45:Int))=false:=sU n4;clear n1 n2 n3 n4
   go_enter func177,ntmps177
   go_wp2_with fail
   go_ret
   exact⟨by rw[hv.out];rfl,cK _⟩
 have m0:((b:Int)==0)=false:=by simp;omega
 rcases hc with hop|hop|hop|hop|⟨n1,n2,n3,n4⟩
 ·have hv:divP op a b=zI op (sizeP op a/sizeP op b) (a^^^b):=by unfold divP;rw[af1 oT,dZ hb0]
  have ca:=λw=>Bp op a w ha;have cb:=λw=>Bp op b w hb;have la:=pT op a ha;have py:=yJ op b hb hb0;have hy:=pT op b hb;have cbk:=λ(s bb:Nat) (w:World) (h1:s<4294967296) (h2:w.cell? ⟨bb,0,none⟩=some (.bool true))=>Ee op s (a^^^b) bb w h1 hxl true (by subst hop;rfl) h2;rw[hv];clear hv;subst hop;generalize sizeP 42 a=x at *;generalize sizeP 42 b=y at *;generalize a^^^b=z at *;have hql:x/y<4294967296:=bL (cO _ _) la;have hq:Hid ((x:Int)/y%4294967296=((x/y:Nat):Int)):=by
   show _=_;have:((x:Int)/y)=((x/y:Nat):Int):=rfl;rw[this];generalize x/y=q at *;omega
  have my:((y:Int)==0)=false:=by simp;omega
  go_enter func177,ntmps177
  go_wp2_with fail
  refine(ca _).mono ?_;rintro e w' ⟨rfl,rfl⟩
  go_wp2_with fail
  refine(cb _).mono ?_;rintro e w' ⟨rfl,rfl⟩
  go_wp2_with fail
  rw[hq.out];refine(cbk _ _ _ hql (by simp)).mono ?_;rintro e w' ⟨rfl,rfl⟩
  go_wp2_with fail
  go_ret
  exact⟨rfl,cK _⟩
 ·have hv:divP op a b=zI op (sizeP op a/sizeP op b) (a^^^b):=by unfold divP;rw[af1 oT,dZ hb0]
  have ca:=λw=>Bp op a w ha;have cb:=λw=>Bp op b w hb;have la:=pT op a ha;have py:=yJ op b hb hb0;have hy:=pT op b hb;have cbk:=λ(s bb:Nat) (w:World) (h1:s<4294967296) (h2:w.cell? ⟨bb,0,none⟩=some (.bool false))=>Ee op s (a^^^b) bb w h1 hxl false (by subst hop;rfl) h2;rw[hv];clear hv;subst hop;generalize sizeP 43 a=x at *;generalize sizeP 43 b=y at *;generalize a^^^b=z at *;have hql:x/y<4294967296:=bL (cO _ _) la;have hq:Hid ((x:Int)/y%4294967296=((x/y:Nat):Int)):=by
   show _=_;have:((x:Int)/y)=((x/y:Nat):Int):=rfl;rw[this];generalize x/y=q at *;omega
  have my:((y:Int)==0)=false:=by simp;omega
  go_enter func177,ntmps177
  go_wp2_with fail
  refine(ca _).mono ?_;rintro e w' ⟨rfl,rfl⟩
  go_wp2_with fail
  refine(cb _).mono ?_;rintro e w' ⟨rfl,rfl⟩
  go_wp2_with fail
  rw[hq.out];refine(cbk _ _ _ hql (by simp)).mono ?_;rintro e w' ⟨rfl,rfl⟩
  go_wp2_with fail
  go_ret
  exact⟨rfl,cK _⟩
 ·have hv:divP op a b=zI op (sizeP op a%sizeP op b) a:=by unfold divP;rw[dZ oT,af1 oT,dZ hb0]
  have ca:=λw=>Bp op a w ha;have cb:=λw=>Bp op b w hb;have la:=pT op a ha;have py:=yJ op b hb hb0;have hy:=pT op b hb;have cbk:=λ(s bb:Nat) (w:World) (h1:s<4294967296) (h2:w.cell? ⟨bb,0,none⟩=some (.bool true))=>Ee op s a bb w h1 ha true (by subst hop;rfl) h2;rw[hv];clear hv;subst hop;generalize sizeP 44 a=x at *;generalize sizeP 44 b=y at *;have hql:x%y<4294967296:=bL (gR _ _) la;have hq:Hid ((x:Int).tmod y=((x%y:Nat):Int)):=pY x y;have hq2:Hid ((x:Int)%y=((x%y:Nat):Int)):=rfl;have my:((y:Int)==0)=false:=by simp;omega
  go_enter func177,ntmps177
  go_wp2_with fail
  refine(ca _).mono ?_;rintro e w' ⟨rfl,rfl⟩
  go_wp2_with fail
  refine(cb _).mono ?_;rintro e w' ⟨rfl,rfl⟩
  go_wp2_with fail
  first|rw[hq.out]|rw[hq2.out]
  refine(cbk _ _ _ hql (by simp)).mono ?_;rintro e w' ⟨rfl,rfl⟩
  go_wp2_with fail
  go_ret
  exact⟨rfl,cK _⟩
 ·have hv:divP op a b=zI op (sizeP op a%sizeP op b) a:=by unfold divP;rw[dZ oT,af1 oT,dZ hb0]
  have ca:=λw=>Bp op a w ha;have cb:=λw=>Bp op b w hb;have la:=pT op a ha;have py:=yJ op b hb hb0;have hy:=pT op b hb;have cbk:=λ(s bb:Nat) (w:World) (h1:s<4294967296) (h2:w.cell? ⟨bb,0,none⟩=some (.bool false))=>Ee op s a bb w h1 ha false (by subst hop;rfl) h2;rw[hv];clear hv;subst hop;generalize sizeP 45 a=x at *;generalize sizeP 45 b=y at *;have hql:x%y<4294967296:=bL (gR _ _) la;have hq:Hid ((x:Int).tmod y=((x%y:Nat):Int)):=pY x y;have hq2:Hid ((x:Int)%y=((x%y:Nat):Int)):=rfl;have my:((y:Int)==0)=false:=by simp;omega
  go_enter func177,ntmps177
  go_wp2_with fail
  refine(ca _).mono ?_;rintro e w' ⟨rfl,rfl⟩
  go_wp2_with fail
  refine(cb _).mono ?_;rintro e w' ⟨rfl,rfl⟩
  go_wp2_with fail
  first|rw[hq.out]|rw[hq2.out]
  refine(cbk _ _ _ hql (by simp)).mono ?_;rintro e w' ⟨rfl,rfl⟩
  go_wp2_with fail
  go_ret
  exact⟨rfl,cK _⟩
 ·have hv:Hid (divP op a b=0):=by show _=_;unfold divP;rw[dZ oT,dZ oT]
  have m1:(op==(42:Int))=false:=sU n1;have m2:(op==(43:Int))=false:=sU n2;have m3:(op==(44:Int))=false:=sU n3;have m4:(op==(45:Int))=false:=sU n4;clear n1 n2 n3 n4
  go_enter func177,ntmps177
  go_wp2_with fail
  go_ret
  exact⟨by rw[hv.out];rfl,cK _⟩
def UB(op:Int):Bool:=decide (op=1)||((decide (11<=op)&&decide (op<=15))||(decide (19<=op)&&decide (op<=27)))
set_option maxHeartbeats 2000000 in
theorem IL(op)(w):Calls Tryz.prog 178 #[.int .i64 op] w λe w'=>e=.returned (.bool (UB op))∧w=w':=by
 have hc:(op=1)∨(op≠1∧op<11)∨(11<=op∧op<=15)∨(16<=op∧op<19)∨(19<=op∧op<=27)∨28<=op:=oT;rcases hc with rfl|⟨h1,h2⟩|⟨h1,h2⟩|⟨h1,h2⟩|⟨h1,h2⟩|h1
 ·go_enter func178,ntmps178
  go_wp2_with fail
  go_ret
  exact⟨rfl,rfl⟩
 all_goals
  have hv:Hid (UB op=((decide (11<=op)&&decide (op<=15))||(decide (19<=op)&&decide (op<=27)))):=by
   show _=_;unfold UB;rw[show decide (op=1)=false by simp;omega,jD]
  have e1:(op==(1:Int))=false:=by simp;omega
 ·have d1:decide (11<=op)=false:=by simp;omega
  have d2:decide (19<=op)=false:=by simp;omega
  clear h1 h2
  go_enter func178,ntmps178
  go_wp2_with fail
  go_ret
  exact⟨by rw[hv.out,d1,d2];rfl,rfl⟩
 ·have d1:decide (11<=op)=true:=by simp;omega
  have d2:decide (op<=15)=true:=by simp;omega
  go_enter func178,ntmps178
  go_wp2_with fail
  go_ret
  exact⟨by rw[hv.out,d1,d2];rfl,rfl⟩
 ·have d1:decide (11<=op)=true:=by simp;omega
  have d2:decide (op<=15)=false:=by simp;omega
  have d3:decide (19<=op)=false:=by simp;omega
  clear h1 h2
  go_enter func178,ntmps178
  go_wp2_with fail
  go_ret
  exact⟨by rw[hv.out,d1,d2,d3];rfl,rfl⟩
 ·have d1:decide (11<=op)=true:=by simp;omega
  have d2:decide (op<=15)=false:=by simp;omega
  have d3:decide (19<=op)=true:=by simp;omega
  have d4:decide (op<=27)=true:=by simp;omega
  clear h1 h2
  go_enter func178,ntmps178
  go_wp2_with fail
  go_ret
  exact⟨by rw[hv.out,d1,d2,d3,d4];rfl,rfl⟩
 ·have d1:decide (11<=op)=true:=by simp;omega
  have d2:decide (op<=15)=false:=by simp;omega
  have d3:decide (19<=op)=true:=by simp;omega
  have d4:decide (op<=27)=false:=by simp;omega
  clear h1
  go_enter func178,ntmps178
  go_wp2_with fail
  go_ret
  exact⟨by rw[hv.out,d1,d2,d3,d4];rfl,rfl⟩
end Go.Proofs.YtlpkggpdjobpmaaGreatDoor
