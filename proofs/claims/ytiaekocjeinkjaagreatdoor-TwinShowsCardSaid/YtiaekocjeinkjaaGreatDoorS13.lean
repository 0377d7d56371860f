import Derived.Test.YtiaekocjeinkjaaGreatDoorS6
import Derived.Test.YtiaekocjeinkjaaGreatDoorS12
set_option linter.all false
namespace Go.Proofs.YtiaekocjeinkjaaGreatDoor
open Go.Proofs.Tryz
open Go.RowKit
def aj(a:Int):Nat:=if 3<=a/\a<=10 then 5 else if 11<=a/\a<=15 then 3 else if 16<=a/\a<=18 then 4 else if 38<=a/\a<=41 then 1 else if 42<=a/\a<=45 then 2 else if a=47\/a=48 then 6 else 0
def bh(a:Int):Nat:=if a=11\/a=14\/a=16 then 1 else if a=12\/a=15\/a=17 then 2 else if a=13\/a=18 then 4 else 0
set_option maxHeartbeats 4000000 in
theorem IP(op rd ag0 ag1:Int)(agR:Nat)(w:World):Calls Tryz.prog 128 #[.agg #[.int .i64 op,.int .i64 rd,.int .i64 ag0,.int .i64 ag1,.int .u32 agR]] w λe w'=>e=.returned (.int .i64 (aj op))∧Below w.heap.size w w':=by
 obtain⟨R,hR⟩:∃R,R=aj op:=⟨_,rfl⟩;have HR:=Lib.hid hR;rw[<-hR];clear hR;have hc:(op<=2∧R=0)∨(3<=op∧op<=10∧R=5)∨(11<=op∧op<=15∧R=3)∨(16<=op∧op<=18∧R=4)∨(19<=op∧op<=37∧R=0)∨(38<=op∧op<=41∧R=1)∨(42<=op∧op<=45∧R=2)∨(op=46∧R=0)∨(op=47∧R=6)∨(op=48∧R=6)∨(49<=op∧R=0):=by
  rw[HR.out];unfold aj
  repeat' (split<;>try omega)
 clear HR;rcases hc with ⟨h2,rfl⟩|⟨h1,h2,rfl⟩|⟨h1,h2,rfl⟩|⟨h1,h2,rfl⟩|⟨h1,h2,rfl⟩|⟨h1,h2,rfl⟩|⟨h1,h2,rfl⟩|⟨rfl,rfl⟩|⟨rfl,rfl⟩|⟨rfl,rfl⟩|⟨h1,rfl⟩
 .skip
  have g0:decide ((3:Int)<=op)=false:=by simp;omega
  have g1:decide ((11:Int)<=op)=false:=by simp;omega
  have g2:decide ((16:Int)<=op)=false:=by simp;omega
  have g3:decide ((38:Int)<=op)=false:=by simp;omega
  have g4:decide ((42:Int)<=op)=false:=by simp;omega
  have l0:decide (op<=(10:Int))=true:=by simp;omega
  have l1:decide (op<=(15:Int))=true:=by simp;omega
  have l2:decide (op<=(18:Int))=true:=by simp;omega
  have l3:decide (op<=(41:Int))=true:=by simp;omega
  have l4:decide (op<=(45:Int))=true:=by simp;omega
  have e0:(op==(47:Int))=false:=by simp only[bA];omega
  have e1:(op==(48:Int))=false:=by simp only[bA];omega
  go_enter func128,ntmps128
  go_wp2
  go_ret
  exact⟨rfl,cK _⟩
 .skip
  have g0:decide ((3:Int)<=op)=true:=by simp;omega
  have g1:decide ((11:Int)<=op)=false:=by simp;omega
  have g2:decide ((16:Int)<=op)=false:=by simp;omega
  have g3:decide ((38:Int)<=op)=false:=by simp;omega
  have g4:decide ((42:Int)<=op)=false:=by simp;omega
  have l0:decide (op<=(10:Int))=true:=by simp;omega
  have l1:decide (op<=(15:Int))=true:=by simp;omega
  have l2:decide (op<=(18:Int))=true:=by simp;omega
  have l3:decide (op<=(41:Int))=true:=by simp;omega
  have l4:decide (op<=(45:Int))=true:=by simp;omega
  have e0:(op==(47:Int))=false:=by simp only[bA];omega
  have e1:(op==(48:Int))=false:=by simp only[bA];omega
  go_enter func128,ntmps128
  go_wp2
  go_ret
  exact⟨rfl,cK _⟩
 .skip
  have g0:decide ((3:Int)<=op)=true:=by simp;omega
  have g1:decide ((11:Int)<=op)=true:=by simp;omega
  have g2:decide ((16:Int)<=op)=false:=by simp;omega
  have g3:decide ((38:Int)<=op)=false:=by simp;omega
  have g4:decide ((42:Int)<=op)=false:=by simp;omega
  have l0:decide (op<=(10:Int))=false:=by simp;omega
  have l1:decide (op<=(15:Int))=true:=by simp;omega
  have l2:decide (op<=(18:Int))=true:=by simp;omega
  have l3:decide (op<=(41:Int))=true:=by simp;omega
  have l4:decide (op<=(45:Int))=true:=by simp;omega
  have e0:(op==(47:Int))=false:=by simp only[bA];omega
  have e1:(op==(48:Int))=false:=by simp only[bA];omega
  go_enter func128,ntmps128
  go_wp2
  go_ret
  exact⟨rfl,cK _⟩
 .skip
  have g0:decide ((3:Int)<=op)=true:=by simp;omega
  have g1:decide ((11:Int)<=op)=true:=by simp;omega
  have g2:decide ((16:Int)<=op)=true:=by simp;omega
  have g3:decide ((38:Int)<=op)=false:=by simp;omega
  have g4:decide ((42:Int)<=op)=false:=by simp;omega
  have l0:decide (op<=(10:Int))=false:=by simp;omega
  have l1:decide (op<=(15:Int))=false:=by simp;omega
  have l2:decide (op<=(18:Int))=true:=by simp;omega
  have l3:decide (op<=(41:Int))=true:=by simp;omega
  have l4:decide (op<=(45:Int))=true:=by simp;omega
  have e0:(op==(47:Int))=false:=by simp only[bA];omega
  have e1:(op==(48:Int))=false:=by simp only[bA];omega
  go_enter func128,ntmps128
  go_wp2
  go_ret
  exact⟨rfl,cK _⟩
 .skip
  have g0:decide ((3:Int)<=op)=true:=by simp;omega
  have g1:decide ((11:Int)<=op)=true:=by simp;omega
  have g2:decide ((16:Int)<=op)=true:=by simp;omega
  have g3:decide ((38:Int)<=op)=false:=by simp;omega
  have g4:decide ((42:Int)<=op)=false:=by simp;omega
  have l0:decide (op<=(10:Int))=false:=by simp;omega
  have l1:decide (op<=(15:Int))=false:=by simp;omega
  have l2:decide (op<=(18:Int))=false:=by simp;omega
  have l3:decide (op<=(41:Int))=true:=by simp;omega
  have l4:decide (op<=(45:Int))=true:=by simp;omega
  have e0:(op==(47:Int))=false:=by simp only[bA];omega
  have e1:(op==(48:Int))=false:=by simp only[bA];omega
  go_enter func128,ntmps128
  go_wp2
  go_ret
  exact⟨rfl,cK _⟩
 .skip
  have g0:decide ((3:Int)<=op)=true:=by simp;omega
  have g1:decide ((11:Int)<=op)=true:=by simp;omega
  have g2:decide ((16:Int)<=op)=true:=by simp;omega
  have g3:decide ((38:Int)<=op)=true:=by simp;omega
  have g4:decide ((42:Int)<=op)=false:=by simp;omega
  have l0:decide (op<=(10:Int))=false:=by simp;omega
  have l1:decide (op<=(15:Int))=false:=by simp;omega
  have l2:decide (op<=(18:Int))=false:=by simp;omega
  have l3:decide (op<=(41:Int))=true:=by simp;omega
  have l4:decide (op<=(45:Int))=true:=by simp;omega
  have e0:(op==(47:Int))=false:=by simp only[bA];omega
  have e1:(op==(48:Int))=false:=by simp only[bA];omega
  go_enter func128,ntmps128
  go_wp2
  go_ret
  exact⟨rfl,cK _⟩
 .skip
  have g0:decide ((3:Int)<=op)=true:=by simp;omega
  have g1:decide ((11:Int)<=op)=true:=by simp;omega
  have g2:decide ((16:Int)<=op)=true:=by simp;omega
  have g3:decide ((38:Int)<=op)=true:=by simp;omega
  have g4:decide ((42:Int)<=op)=true:=by simp;omega
  have l0:decide (op<=(10:Int))=false:=by simp;omega
  have l1:decide (op<=(15:Int))=false:=by simp;omega
  have l2:decide (op<=(18:Int))=false:=by simp;omega
  have l3:decide (op<=(41:Int))=false:=by simp;omega
  have l4:decide (op<=(45:Int))=true:=by simp;omega
  have e0:(op==(47:Int))=false:=by simp only[bA];omega
  have e1:(op==(48:Int))=false:=by simp only[bA];omega
  go_enter func128,ntmps128
  go_wp2
  go_ret
  exact⟨rfl,cK _⟩
 .skip
  go_enter func128,ntmps128
  go_wp2
  go_ret
  exact⟨rfl,cK _⟩
 .skip
  go_enter func128,ntmps128
  go_wp2
  go_ret
  exact⟨rfl,cK _⟩
 .skip
  go_enter func128,ntmps128
  go_wp2
  go_ret
  exact⟨rfl,cK _⟩
 .skip
  have g0:decide ((3:Int)<=op)=true:=by simp;omega
  have g1:decide ((11:Int)<=op)=true:=by simp;omega
  have g2:decide ((16:Int)<=op)=true:=by simp;omega
  have g3:decide ((38:Int)<=op)=true:=by simp;omega
  have g4:decide ((42:Int)<=op)=true:=by simp;omega
  have l0:decide (op<=(10:Int))=false:=by simp;omega
  have l1:decide (op<=(15:Int))=false:=by simp;omega
  have l2:decide (op<=(18:Int))=false:=by simp;omega
  have l3:decide (op<=(41:Int))=false:=by simp;omega
  have l4:decide (op<=(45:Int))=false:=by simp;omega
  have e0:(op==(47:Int))=false:=by simp only[bA];omega
  have e1:(op==(48:Int))=false:=by simp only[bA];omega
  go_enter func128,ntmps128
  go_wp2
  go_ret
  exact⟨rfl,cK _⟩
set_option maxHeartbeats 4000000 in
theorem Nz(op rd ag0 ag1:Int)(agR:Nat)(w:World):Calls Tryz.prog 168 #[.agg #[.int .i64 op,.int .i64 rd,.int .i64 ag0,.int .i64 ag1,.int .u32 agR]] w λe w'=>e=.returned (.int .i64 (bh op))∧Below w.heap.size w w':=by
 obtain⟨R,hR⟩:∃R,R=bh op:=⟨_,rfl⟩;have HR:=Lib.hid hR;rw[<-hR];clear hR;have hc:(op<=10∧R=0)∨(op=11∧R=1)∨(op=12∧R=2)∨(op=13∧R=4)∨(op=14∧R=1)∨(op=15∧R=2)∨(op=16∧R=1)∨(op=17∧R=2)∨(op=18∧R=4)∨(19<=op∧R=0):=by
  rw[HR.out];unfold bh
  repeat' (split<;>try omega)
 clear HR;rcases hc with ⟨h2,rfl⟩|⟨rfl,rfl⟩|⟨rfl,rfl⟩|⟨rfl,rfl⟩|⟨rfl,rfl⟩|⟨rfl,rfl⟩|⟨rfl,rfl⟩|⟨rfl,rfl⟩|⟨rfl,rfl⟩|⟨h1,rfl⟩
 .skip
  have e0:(op==(11:Int))=false:=by simp only[bA];omega
  have e1:(op==(14:Int))=false:=by simp only[bA];omega
  have e2:(op==(16:Int))=false:=by simp only[bA];omega
  have e3:(op==(12:Int))=false:=by simp only[bA];omega
  have e4:(op==(15:Int))=false:=by simp only[bA];omega
  have e5:(op==(17:Int))=false:=by simp only[bA];omega
  have e6:(op==(13:Int))=false:=by simp only[bA];omega
  have e7:(op==(18:Int))=false:=by simp only[bA];omega
  go_enter func168,ntmps168
  go_wp2
  go_ret
  exact⟨rfl,cK _⟩
 .skip
  go_enter func168,ntmps168
  go_wp2
  go_ret
  exact⟨rfl,cK _⟩
 .skip
  go_enter func168,ntmps168
  go_wp2
  go_ret
  exact⟨rfl,cK _⟩
 .skip
  go_enter func168,ntmps168
  go_wp2
  go_ret
  exact⟨rfl,cK _⟩
 .skip
  go_enter func168,ntmps168
  go_wp2
  go_ret
  exact⟨rfl,cK _⟩
 .skip
  go_enter func168,ntmps168
  go_wp2
  go_ret
  exact⟨rfl,cK _⟩
 .skip
  go_enter func168,ntmps168
  go_wp2
  go_ret
  exact⟨rfl,cK _⟩
 .skip
  go_enter func168,ntmps168
  go_wp2
  go_ret
  exact⟨rfl,cK _⟩
 .skip
  go_enter func168,ntmps168
  go_wp2
  go_ret
  exact⟨rfl,cK _⟩
 .skip
  have e0:(op==(11:Int))=false:=by simp only[bA];omega
  have e1:(op==(14:Int))=false:=by simp only[bA];omega
  have e2:(op==(16:Int))=false:=by simp only[bA];omega
  have e3:(op==(12:Int))=false:=by simp only[bA];omega
  have e4:(op==(15:Int))=false:=by simp only[bA];omega
  have e5:(op==(17:Int))=false:=by simp only[bA];omega
  have e6:(op==(13:Int))=false:=by simp only[bA];omega
  have e7:(op==(18:Int))=false:=by simp only[bA];omega
  go_enter func168,ntmps168
  go_wp2
  go_ret
  exact⟨rfl,cK _⟩
set_option maxHeartbeats 4000000 in
theorem OX(op rd ag0 ag1:Int)(agR:Nat)(w:World):Calls Tryz.prog 164 #[.agg #[.int .i64 op,.int .i64 rd,.int .i64 ag0,.int .i64 ag1,.int .u32 agR]] w λe w'=>e=.returned (.int .i64 (if yW (cW op)then rd else 0))/\Below w.heap.size w w':=by
 have hf:=sB op;generalize hF:cW op=f at *;have cform:∀w,Calls Tryz.prog 199 #[.int .i64 op] w λe w'=>e=.returned (.int .i64 f)/\w=w':=λw=>by
  have:=Cb op w;rw[hF]at this;exact this
 have chas:=λw=>LB f hf w;clear hF;generalize uS f=b1 at *;generalize vS f=b2 at *;obtain⟨b,hb⟩:∃b,b=yW f:=⟨_,R⟩;rw[<-hb]at chas⊢;clear hb;cases b
 all_goals
  go_enter func164,ntmps164
  go_wp2_with fail
  refine(cform _).mono ?_;rintro e w1 ⟨rfl,rfl⟩
  go_wp2_with fail
  refine(chas _).mono ?_;rintro e w1 ⟨rfl,rfl⟩
  go_wp2_with fail
  go_ret
  exact⟨R,cK _⟩
def Nw(a:Int)(s x:Nat)(h:s<4294967296):zI a s x<4294967296:=by unfold zI;split<;>omega
def XC(d:Int)(a b:Nat)(e:a<4294967296)(f:b<4294967296):ek d a b<4294967296:=by
 have c:=pT d a e;unfold ek;split
 .split
  .omega
  exact Nw _ _ _ (bL (cO _ _) c)
 split
 .split
  .omega
  exact Nw _ _ _ (bL (gR _ _) c)
 omega
set_option maxHeartbeats 4000000 in
theorem Ee(op:Int)(s x b:Nat)(w:World)(hs:s<4294967296)(hx:x<4294967296)(sg:Bool)(hsg:sg=decide (op=42\/op=44))(hc:w.cell? ⟨b,0,none⟩=some (.bool sg)):
  Calls Tryz.prog 246 #[.int .u32 s,.int .u32 x,.pointer (some ⟨b,0,none⟩)] w λe w'=>e=.returned (.int .u32 (zI op s x))/\w=w':=by
 have wx:=xD x hx;have hs2:(2147483648<=x->decide (bw x<0)=true)/\(x<2147483648->decide (bw x<0)=false):=by
  unfold bw;constructor
  .intro h;rw[dZ oT];simp;omega
  .intro h;rw[aa oT];simp
 have hb:=Lib.hid hs2;clear hs2
 cases sg with
 | false=>
  have hv:Hid (zI op s x=s):=by
   show _=_;unfold zI;have: ¬(op=42\/op=44):=aF hsg.symm;rw[dZ (λh=>this h.1)]
  clear hsg
  go_enter func246,ntmps246
  go_wp2_with fail
  go_ret
  exact⟨by rw[hv.out];rfl,R⟩
 | true=>
  have hop:op=42\/op=44:=ax hsg.symm;clear hsg;by_cases h:2147483648<=x
  .have hd:=hb.out.1 h;have hv:Hid (zI op s x=(4294967296-s)%4294967296):=by show _=_;unfold zI;rw[aa ⟨hop,h⟩]
   clear hop
   go_enter func246,ntmps246
   go_wp2_with fail
   go_ret
   refine⟨gH ?_,R⟩;rw[hv.out];omega
  .have hd:=hb.out.2 oT;have hv:Hid (zI op s x=s):=by show _=_;unfold zI;rw[dZ (λq=>h q.2)]
   clear hop
   go_enter func246,ntmps246
   go_wp2_with fail
   go_ret
   exact⟨by rw[hv.out];rfl,R⟩
set_option maxHeartbeats 8000000 in
theorem OW(op:Int)(a b:Nat)(w:World)(ha:a<4294967296)(hb:b<4294967296):Calls Tryz.prog 232 #[.int .i64 op,.int .u32 a,.int .u32 b] w λe w'=>e=.returned (.int .u32 (ek op a b))/\Below w.heap.size w w':=by
 have hx:=u32_xor_nat a b ha hb;have hxl:a^^^b<4294967296:=iM (n:=32) ha hb;have hc:op=42\/op=43\/op=44\/op=45\/(op≠42/\op≠43/\op≠44/\op≠45):=oT;by_cases hb0:b=0
 .subst hb0;rcases hc with rfl|rfl|rfl|rfl|⟨n1,n2,n3,n4⟩
  .go_enter func232,ntmps232
   go_wp2_with fail
   go_ret
   exact⟨rfl,cK _⟩
  .go_enter func232,ntmps232
   go_wp2_with fail
   go_ret
   exact⟨rfl,cK _⟩
  .go_enter func232,ntmps232
   go_wp2_with fail
   go_ret
   exact⟨rfl,cK _⟩
  .go_enter func232,ntmps232
   go_wp2_with fail
   go_ret
   exact⟨rfl,cK _⟩
  .have hv:Hid (ek op a 0=0):=by show _=_;unfold ek;rw[dZ oT,dZ oT]
   have m1:(op==(42:Int))=false:=sU n1;have m2:(op==(43:Int))=false:=sU n2;have m3:(op==(44:Int))=false:=sU n3;have m4:(op==(45:Int))=false:=sU n4;clear n1 n2 n3 n4
   go_enter func232,ntmps232
   go_wp2_with fail
   go_ret
   exact⟨by rw[hv.out];rfl,cK _⟩
 have m0:((b:Int)==0)=false:=by simp;omega
 rcases hc with hop|hop|hop|hop|⟨n1,n2,n3,n4⟩
 .have hv:ek op a b=zI op (cd op a/cd op b) (a^^^b):=by unfold ek;rw[aa oT,dZ hb0]
  have ca:=λw=>Bp op a w ha;have cb:=λw=>Bp op b w hb;have la:=pT op a ha;have py:=yJ op b hb hb0;have hy:=pT op b hb;have cbk:=λ(s bb:Nat) (w:World) (h1:s<4294967296) (h2:w.cell? ⟨bb,0,none⟩=some (.bool true))=>Ee op s (a^^^b) bb w h1 hxl true (by subst hop;rfl) h2;rw[hv];clear hv;subst hop;generalize cd 42 a=x at *;generalize cd 42 b=y at *;generalize a^^^b=z at *;have hql:x/y<4294967296:=bL (cO _ _) la;have hq:Hid ((x:Int)/y%4294967296=((x/y:Nat):Int)):=by
   show _=_;have:((x:Int)/y)=((x/y:Nat):Int):=rfl;rw[this];generalize x/y=q at *;omega
  have my:((y:Int)==0)=false:=by simp;omega
  go_enter func232,ntmps232
  go_wp2_with fail
  refine(ca _).mono ?_;rintro e w' ⟨rfl,rfl⟩
  go_wp2_with fail
  refine(cb _).mono ?_;rintro e w' ⟨rfl,rfl⟩
  go_wp2_with fail
  rw[hq.out];refine(cbk _ _ _ hql (by simp)).mono ?_;rintro e w' ⟨rfl,rfl⟩
  go_wp2_with fail
  go_ret
  exact⟨R,cK _⟩
 .have hv:ek op a b=zI op (cd op a/cd op b) (a^^^b):=by unfold ek;rw[aa oT,dZ hb0]
  have ca:=λw=>Bp op a w ha;have cb:=λw=>Bp op b w hb;have la:=pT op a ha;have py:=yJ op b hb hb0;have hy:=pT op b hb;have cbk:=λ(s bb:Nat) (w:World) (h1:s<4294967296) (h2:w.cell? ⟨bb,0,none⟩=some (.bool false))=>Ee op s (a^^^b) bb w h1 hxl false (by subst hop;rfl) h2;rw[hv];clear hv;subst hop;generalize cd 43 a=x at *;generalize cd 43 b=y at *;generalize a^^^b=z at *;have hql:x/y<4294967296:=bL (cO _ _) la;have hq:Hid ((x:Int)/y%4294967296=((x/y:Nat):Int)):=by
   show _=_;have:((x:Int)/y)=((x/y:Nat):Int):=rfl;rw[this];generalize x/y=q at *;omega
  have my:((y:Int)==0)=false:=by simp;omega
  go_enter func232,ntmps232
  go_wp2_with fail
  refine(ca _).mono ?_;rintro e w' ⟨rfl,rfl⟩
  go_wp2_with fail
  refine(cb _).mono ?_;rintro e w' ⟨rfl,rfl⟩
  go_wp2_with fail
  rw[hq.out];refine(cbk _ _ _ hql (by simp)).mono ?_;rintro e w' ⟨rfl,rfl⟩
  go_wp2_with fail
  go_ret
  exact⟨R,cK _⟩
 .have hv:ek op a b=zI op (cd op a%cd op b) a:=by unfold ek;rw[dZ oT,aa oT,dZ hb0]
  have ca:=λw=>Bp op a w ha;have cb:=λw=>Bp op b w hb;have la:=pT op a ha;have py:=yJ op b hb hb0;have hy:=pT op b hb;have cbk:=λ(s bb:Nat) (w:World) (h1:s<4294967296) (h2:w.cell? ⟨bb,0,none⟩=some (.bool true))=>Ee op s a bb w h1 ha true (by subst hop;rfl) h2;rw[hv];clear hv;subst hop;generalize cd 44 a=x at *;generalize cd 44 b=y at *;have hql:x%y<4294967296:=bL (gR _ _) la;have hq:Hid ((x:Int).tmod y=((x%y:Nat):Int)):=pY x y;have hq2:Hid ((x:Int)%y=((x%y:Nat):Int)):=rfl;have my:((y:Int)==0)=false:=by simp;omega
  go_enter func232,ntmps232
  go_wp2_with fail
  refine(ca _).mono ?_;rintro e w' ⟨rfl,rfl⟩
  go_wp2_with fail
  refine(cb _).mono ?_;rintro e w' ⟨rfl,rfl⟩
  go_wp2_with fail
  first|rw[hq.out]|rw[hq2.out]
  refine(cbk _ _ _ hql (by simp)).mono ?_;rintro e w' ⟨rfl,rfl⟩
  go_wp2_with fail
  go_ret
  exact⟨R,cK _⟩
 .have hv:ek op a b=zI op (cd op a%cd op b) a:=by unfold ek;rw[dZ oT,aa oT,dZ hb0]
  have ca:=λw=>Bp op a w ha;have cb:=λw=>Bp op b w hb;have la:=pT op a ha;have py:=yJ op b hb hb0;have hy:=pT op b hb;have cbk:=λ(s bb:Nat) (w:World) (h1:s<4294967296) (h2:w.cell? ⟨bb,0,none⟩=some (.bool false))=>Ee op s a bb w h1 ha false (by subst hop;rfl) h2;rw[hv];clear hv;subst hop;generalize cd 45 a=x at *;generalize cd 45 b=y at *;have hql:x%y<4294967296:=bL (gR _ _) la;have hq:Hid ((x:Int).tmod y=((x%y:Nat):Int)):=pY x y;have hq2:Hid ((x:Int)%y=((x%y:Nat):Int)):=rfl;have my:((y:Int)==0)=false:=by simp;omega
  go_enter func232,ntmps232
  go_wp2_with fail
  refine(ca _).mono ?_;rintro e w' ⟨rfl,rfl⟩
  go_wp2_with fail
  refine(cb _).mono ?_;rintro e w' ⟨rfl,rfl⟩
  go_wp2_with fail
  first|rw[hq.out]|rw[hq2.out]
  refine(cbk _ _ _ hql (by simp)).mono ?_;rintro e w' ⟨rfl,rfl⟩
  go_wp2_with fail
  go_ret
  exact⟨R,cK _⟩
 .have hv:Hid (ek op a b=0):=by show _=_;unfold ek;rw[dZ oT,dZ oT]
  have m1:(op==(42:Int))=false:=sU n1;have m2:(op==(43:Int))=false:=sU n2;have m3:(op==(44:Int))=false:=sU n3;have m4:(op==(45:Int))=false:=sU n4;clear n1 n2 n3 n4
  go_enter func232,ntmps232
  go_wp2_with fail
  go_ret
  exact⟨by rw[hv.out];rfl,cK _⟩
def UB(a:Int):Bool:=decide (a=1)||((decide (11<=a)&&decide (a<=15))||(decide (19<=a)&&decide (a<=27)))
set_option maxHeartbeats 2000000 in
theorem IL(op:Int)(w:World):Calls Tryz.prog 233 #[.int .i64 op] w λe w'=>e=.returned (.bool (UB op))/\w=w':=by
 have hc:(op=1)\/(op≠1/\op<11)\/(11<=op/\op<=15)\/(16<=op/\op<19)\/(19<=op/\op<=27)\/28<=op:=oT;rcases hc with rfl|⟨h1,h2⟩|⟨h1,h2⟩|⟨h1,h2⟩|⟨h1,h2⟩|h1
 .go_enter func233,ntmps233
  go_wp2_with fail
  go_ret
  exact⟨rfl,rfl⟩
 all_goals
  have hv:Hid (UB op=((decide (11<=op)&&decide (op<=15))||(decide (19<=op)&&decide (op<=27)))):=by
   show _=_;unfold UB;rw[show decide (op=1)=false by simp;omega,jD]
  have e1:(op==(1:Int))=false:=by simp;omega
 .have d1:decide (11<=op)=false:=by simp;omega
  have d2:decide (19<=op)=false:=by simp;omega
  clear h1 h2
  go_enter func233,ntmps233
  go_wp2_with fail
  go_ret
  exact⟨by rw[hv.out,d1,d2];rfl,R⟩
 .have d1:decide (11<=op)=true:=by simp;omega
  have d2:decide (op<=15)=true:=by simp;omega
  go_enter func233,ntmps233
  go_wp2_with fail
  go_ret
  exact⟨by rw[hv.out,d1,d2];rfl,R⟩
 .have d1:decide (11<=op)=true:=by simp;omega
  have d2:decide (op<=15)=false:=by simp;omega
  have d3:decide (19<=op)=false:=by simp;omega
  clear h1 h2
  go_enter func233,ntmps233
  go_wp2_with fail
  go_ret
  exact⟨by rw[hv.out,d1,d2,d3];rfl,R⟩
 .have d1:decide (11<=op)=true:=by simp;omega
  have d2:decide (op<=15)=false:=by simp;omega
  have d3:decide (19<=op)=true:=by simp;omega
  have d4:decide (op<=27)=true:=by simp;omega
  clear h1 h2
  go_enter func233,ntmps233
  go_wp2_with fail
  go_ret
  exact⟨by rw[hv.out,d1,d2,d3,d4];rfl,R⟩
 .have d1:decide (11<=op)=true:=by simp;omega
  have d2:decide (op<=15)=false:=by simp;omega
  have d3:decide (19<=op)=true:=by simp;omega
  have d4:decide (op<=27)=false:=by simp;omega
  clear h1
  go_enter func233,ntmps233
  go_wp2_with fail
  go_ret
  exact⟨by rw[hv.out,d1,d2,d3,d4];rfl,R⟩
def qP(d:Int)(c pc a b:Nat):Nat:=
 if d=3 then(pc+c)%4294967296 else if tB d a b=true then(pc+c)%4294967296
 else if d=4 then(a+c)%4294967296/2*2 else(pc+4)%4294967296
def BF(c:Int)(d pc a b:Nat):Nat:=
 if aj c=1 then hJ c a b else if aj c=2 then ek c a b else if c=2 then(pc+d)%4294967296
 else if c=3\/c=4 then(pc+4)%4294967296 else b7 c a (if UB c=true then d else b)
def Ed(d:Int)(c pc a b:Nat):qP d c pc a b<4294967296:=by
 unfold qP
 repeat' split
 all_goals omega
def qF{c:Prop}[Decidable c]{x y n:Nat}(a:x<n)(b:y<n):(if c then x else y)<n:=by
 split
 .exact a
 exact b
def yi(e:Int)(a b:Nat)(c:a<4294967296)(d:b<4294967296):b7 e a b<4294967296:=by
 unfold b7;exact qF (aQ _ dT) (qF (aQ _ dT) (qF (bL kE c) (qF (kQ (n:=32) c d) (qF (iM (n:=32) c d)
  (qF (aQ _ dT) (qF (bL (cO _ _) c) (qF (Fm _) (qF (qF dT dT) (qF (qF dT dT) (qF d dT))))))))))
def XB(e:Int)(a b:Nat)(c:a<4294967296)(d:b<4294967296):hJ e a b<4294967296:=by
 unfold hJ;exact qF (aQ _ dT) (qF (Fm _) (qF (Fm _) (qF (fO (e5 (Nat.mul_lt_mul'' c d) dT)) dT)))
def Rp(g:Int)(c pc a b:Nat)(f:c<4294967296)(d:a<4294967296)(e:b<4294967296):BF g c pc a b<4294967296:=by
 unfold BF;exact qF (XB _ _ _ d e) (qF (XC _ _ _ d e) (qF (aQ _ dT) (qF (aQ _ dT) (yi _ _ _ d (qF f e)))))
set_option maxHeartbeats 4000000 in
theorem UA(op rd ag0 ag1:Int)(agR pc a b:Nat)(w:World)(hi:agR<4294967296)(hp:pc<4294967296)(ha:a<4294967296)(hb:b<4294967296):
  Calls Tryz.prog 237 #[.agg #[.int .i64 op,.int .i64 rd,.int .i64 ag0,.int .i64 ag1,.int .u32 agR],.int .u32 pc,.int .u32 a,.int .u32 b] w λe w'=>e=.returned (.int .u32 (qP op agR pc a b))/\Below w.heap.size w w':=by
 have ct:=λw=>Rr op a b w ha hb;have hmask:∀x:Nat,x<4294967296->bits .andNot .u32 (x:Int) 1=((x/2*2:Nat):Int):=λx hx=>by
  rw[show(1:Int)=((1:Nat):Int) by rfl,u32_andNot_nat x 1 hx dT,(dT:(4294967295:Nat)-1=4294967294),nat_midmask 32 1 x dT];have:x%2 ^ 32=x:=jM hx;omega
 by_cases h3:op=3
 .subst h3;have hv:Hid (qP 3 agR pc a b=(pc+agR)%4294967296):=by show _=_;simp[qP]
  go_enter func237,ntmps237
  go_wp2_with fail
  go_ret
  refine⟨gH ?_,cK _⟩;rw[hv.out];omega
 have m3:(op==(3:Int))=false:=sU h3
 cases ht:tB op a b with
 |true=>
  have hv:Hid (qP op agR pc a b=(pc+agR)%4294967296):=by show _=_;unfold qP;rw[dZ h3,ht,aa R]
  rw[ht]at ct;clear h3 ht
  go_enter func237,ntmps237
  go_wp2_with fail
  refine(ct _).mono ?_;rintro e w' ⟨rfl,rfl⟩
  go_wp2_with fail
  go_ret
  refine⟨gH ?_,cK _⟩;rw[hv.out]
  omega
 | false=>
  rw[ht]at ct;by_cases h4:op=4
  .subst h4;have hv:Hid (qP 4 agR pc a b=(a+agR)%4294967296/2*2):=by show _=_;unfold qP;rw[dZ h3,ht,dZ dT,aa R]
   have hsum:((a:Int)+agR)%4294967296=(((a+agR)%4294967296:Nat):Int):=oT;have hm:=hmask ((a+agR)%4294967296) (aQ _ dT);rw[<-hsum]at hm;clear h3 ht m3;have HM:=Lib.hid hm;clear hm hsum
   go_enter func237,ntmps237
   go_wp2_with fail
   refine(ct _).mono ?_;rintro e w' ⟨rfl,rfl⟩
   go_wp2_with fail
   go_ret
   refine⟨gH ?_,cK _⟩;rw[hv.out];exact HM.out
  .have m4:(op==(4:Int))=false:=sU h4;have hv:Hid (qP op agR pc a b=(pc+4)%4294967296):=by show _=_;unfold qP;rw[dZ h3,ht,dZ dT,dZ h4]
   clear h3 ht h4
   go_enter func237,ntmps237
   go_wp2_with fail
   refine(ct _).mono ?_;rintro e w' ⟨rfl,rfl⟩
   go_wp2_with fail
   go_ret
   refine⟨gH ?_,cK _⟩;rw[hv.out];omega
set_option maxHeartbeats 4000000 in
theorem OV(op rd ag0 ag1:Int)(agR pc a b:Nat)(w:World)(hi:agR<4294967296)(hp:pc<4294967296)(ha:a<4294967296)(hb:b<4294967296):
  Calls Tryz.prog 215 #[.agg #[.int .i64 op,.int .i64 rd,.int .i64 ag0,.int .i64 ag1,.int .u32 agR],.int .u32 pc,.int .u32 a,.int .u32 b] w λe w'=>e=.returned (.tuple #[.int .u32 (qP op agR pc a b),.bool (decide (qP op agR pc a b%4=0))])/\Below w.heap.size w w':=by
 have cn:=λw=>UA op rd ag0 ag1 agR pc a b w hi hp ha hb;have hl:=Ed op agR pc a b;generalize qP op agR pc a b=n at *;have hm:(n:Int).tmod 4=((n%4:Nat):Int):=pY n 4;by_cases h:n%4=0
 .have hd:(n:Int).tmod 4=0:=by rw[hm,h];rfl
  have hd2:(n:Int)%4=0:=oT;have hv:Hid (decide (n%4=0)=true):=by show _=_;simpa using h
  clear hm h
  go_enter func215,ntmps215
  go_wp2_with fail
  refine(cn _).mono ?_;rintro e w1 ⟨rfl,b1⟩
  go_wp2_with fail
  go_ret2
  exact⟨by rw[hv.out];rfl,(cK _).and b1⟩
 .have hd:((n:Int).tmod 4==0)=false:=by rw[hm];simp;omega
  have hd2:((n:Int)%4==0)=false:=by simp;omega
  have hv:Hid (decide (n%4=0)=false):=by show _=_;simpa using h
  clear hm h
  go_enter func215,ntmps215
  go_wp2_with fail
  refine(cn _).mono ?_;rintro e w1 ⟨rfl,b1⟩
  go_wp2_with fail
  go_ret2
  exact⟨by rw[hv.out];rfl,(cK _).and b1⟩
def yI(w:World)(d e a b:Int)(c:Nat):gp (w.alloc (.cells #[.int .i64 d,.int .i64 e,.int .i64 a,.int .i64 b,.int .u32 c] 87)) w.heap.size [.int .i64 d,.int .i64 e,.int .i64 a,.int .i64 b,.int .u32 c]:=gp.new w _ _
set_option maxHeartbeats 8000000 in
theorem Rq(op rd ag0 ag1:Int)(agR pc a b:Nat)(w:World)(hi:agR<4294967296)(hp:pc<4294967296)(ha:a<4294967296)(hb:b<4294967296):
  Calls Tryz.prog 213 #[.agg #[.int .i64 op,.int .i64 rd,.int .i64 ag0,.int .i64 ag1,.int .u32 agR],.int .u32 pc,.int .u32 a,.int .u32 b] w λe w'=>e=.returned (.int .u32 (BF op agR pc a b))/\Below w.heap.size w w':=by
 have ck:=λw=>IP op rd ag0 ag1 agR w;have cm:=λw=>XD op a b w ha hb;have cd:=λw=>OW op a b w ha hb;have cdo:=λ(n:Nat) (hn:n<4294967296) w=>yj op a n w ha hn;have cim:=λw=>IL op w;have hv:BF op agR pc a b=if aj op=1 then hJ op a b else if aj op=2 then ek op a b else if op=2 then(pc+agR)%4294967296
  else if op=3\/op=4 then(pc+4)%4294967296 else b7 op a (if UB op=true then agR else b):=rfl
 generalize BF op agR pc a b=v at *;have hkd:∀k:Nat,aj op=k->∀w,Calls Tryz.prog 128 #[.agg #[.int .i64 op,.int .i64 rd,.int .i64 ag0,.int .i64 ag1,.int .u32 agR]] w λe w'=>e=.returned (.int .i64 k)/\Below w.heap.size w w':=λk hk w=>hk ▸ ck w;clear ck;by_cases h1:aj op=1
 .have ck:=hkd 1 h1;rw[aa h1]at hv;rw[hv];clear hv hkd cd cdo cim h1;generalize hJ op a b=v at *
  go_enter func213,ntmps213
  go_wp2_with fail
  refine(ck _).mono ?_;rintro e w1 ⟨rfl,b1⟩;have M:=(yI w op rd ag0 ag1 agR).kept b1;have c0:=M.c 0 _ R
  go_wp2_with fail
  refine(cm _).mono ?_;rintro e w2 ⟨rfl,rfl⟩
  go_wp2_with fail
  go_ret
  exact⟨R,(cK _).and b1⟩
 by_cases h2:aj op=2
 .have ck:=hkd 2 h2;rw[dZ h1,aa h2]at hv;rw[hv];clear hv hkd cm cdo cim h1 h2;generalize ek op a b=v at *
  go_enter func213,ntmps213
  go_wp2_with fail
  refine(ck _).mono ?_;rintro e w1 ⟨rfl,b1⟩;have M:=(yI w op rd ag0 ag1 agR).kept b1;have c0:=M.c 0 _ R
  go_wp2_with fail
  refine(cd _).mono ?_;rintro e w2 ⟨rfl,b2⟩
  go_wp2_with fail
  go_ret
  exact⟨R,((cK _).and b1).and b2⟩
 rw[dZ h1,dZ h2]at hv;obtain⟨k,hk⟩:∃k,aj op=k:=⟨_,R⟩;have ck:=hkd k hk;rw[hk]at h1 h2;have q1:((k:Int)==1)=false:=by simp;omega
 have q2:((k:Int)==2)=false:=by simp;omega
 clear hkd hk h1 h2 cm cd;by_cases h3:op=2
 .rw[aa h3]at hv;subst h3;have HV:=Lib.hid hv;clear hv cdo cim
  go_enter func213,ntmps213
  go_wp2_with fail
  refine(ck _).mono ?_;rintro e w1 ⟨rfl,b1⟩;have M:=(yI w 2 rd ag0 ag1 agR).kept b1;have c0:=M.c 0 _ R;have c4:=M.c 4 _ R
  go_wp2_with fail
  go_ret
  refine⟨gH ?_,(cK _).and b1⟩;rw[HV.out];omega
 rw[dZ h3]at hv;have q3:(op==(2:Int))=false:=sU h3;by_cases h4:op=3\/op=4
 .rw[aa h4]at hv;have HV:=Lib.hid hv;clear hv cdo cim h3;rcases h4 with rfl|rfl
  all_goals
   go_enter func213,ntmps213
   go_wp2_with fail
   refine(ck _).mono ?_;rintro e w1 ⟨rfl,b1⟩;have M:=(yI w _ rd ag0 ag1 agR).kept b1;have c0:=M.c 0 _ R
   go_wp2_with fail
   go_ret
   refine⟨gH ?_,(cK _).and b1⟩;rw[HV.out];omega
 rw[dZ h4]at hv;have q4:(op==(3:Int))=false:=by simp;omega
 have q5:(op==(4:Int))=false:=by simp;omega
 clear h3 h4
 cases him:UB op with
 |true=>
  rw[him,aa R]at hv;rw[him]at cim;have cdo':=cdo agR hi;rw[<-hv]at cdo';clear cdo hv him
  go_enter func213,ntmps213
  go_wp2_with fail
  refine(ck _).mono ?_;rintro e w1 ⟨rfl,b1⟩;have M:=(yI w op rd ag0 ag1 agR).kept b1;have c0:=M.c 0 _ R;have c4:=M.c 4 _ R
  go_wp2_with fail
  refine(cim _).mono ?_;rintro e w2 ⟨rfl,rfl⟩
  go_wp2_with fail
  refine(cdo' _).mono ?_;rintro e w2 ⟨rfl,rfl⟩
  go_wp2_with fail
  go_ret
  exact⟨R,(cK _).and b1⟩
 |false=>
  rw[him,dZ dT]at hv;rw[him]at cim;have cdo':=cdo b hb;rw[<-hv]at cdo';clear cdo hv him
  go_enter func213,ntmps213
  go_wp2_with fail
  refine(ck _).mono ?_;rintro e w1 ⟨rfl,b1⟩;have M:=(yI w op rd ag0 ag1 agR).kept b1;have c0:=M.c 0 _ R
  go_wp2_with fail
  refine(cim _).mono ?_;rintro e w2 ⟨rfl,rfl⟩
  go_wp2_with fail
  refine(cdo' _).mono ?_;rintro e w2 ⟨rfl,rfl⟩
  go_wp2_with fail
  go_ret
  exact⟨R,(cK _).and b1⟩
def kZ(size:Int)(b:Nat)(a:Int):Bool:=decide (a=1\/a=2\/a=4)&&(decide (0<=size)&&(decide ((b:Int)%a=0)&&decide ((b:Int)+a<=size)))
def UD(size:Int)(agZ:Nat)(many:Int)(w:World)(h1:many≠1)(h2:many≠2)(h4:many≠4):Calls Tryz.prog 114 #[.int .i64 size,.int .u32 agZ,.int .i64 many] w λe w'=>e=.returned (.bool (kZ size agZ many))/\w=w':=by
 have hv:Hid (kZ size agZ many=false):=by
  show _=_;unfold kZ;rw[show decide (many=1\/many=2\/many=4)=false by simp[h1,h2,h4]];rfl
 have m1:(many==(1:Int))=false:=sU h1;have m2:(many==(2:Int))=false:=sU h2;have m4:(many==(4:Int))=false:=sU h4
 go_enter func114,ntmps114
 go_wp2_with fail
 go_ret
 exact⟨by rw[hv.out];rfl,R⟩
set_option maxHeartbeats 4000000 in
theorem Ru(size:Int)(agZ:Nat)(many:Int)(w:World)(hs:size<9223372036854775808)(ha:agZ<4294967296):Calls Tryz.prog 114 #[.int .i64 size,.int .u32 agZ,.int .i64 many] w λe w'=>e=.returned (.bool (kZ size agZ many))/\w=w':=by
 by_cases h1:many≠1/\many≠2/\many≠4
 .exact UD size agZ many w h1.1 h1.2.1 h1.2.2
 have hc:many=1\/many=2\/many=4:=oT;clear h1;by_cases h0:size<0
 .have hv:Hid (kZ size agZ many=false):=by
   show _=_;unfold kZ;rw[show decide (0<=size)=false from sW oT];simp
  have d0:decide (size<0)=true:=sU h0;rcases hc with rfl|rfl|rfl
  all_goals
   go_enter func114,ntmps114
   go_wp2_with fail
   go_ret
   exact⟨by rw[hv.out];rfl,rfl⟩
 .have d0:decide (size<0)=false:=sU h0;have hv:Hid (kZ size agZ many=(decide ((agZ:Int)%many=0)&&decide ((agZ:Int)+many<=size))):=by
   show _=_;unfold kZ;rw[(sU hc:decide (many=1\/many=2\/many=4)=true),show decide (0<=size)=true from jP oT];rfl
  have hsz:0<=size:=oT;clear h0;rcases hc with rfl|rfl|rfl
  all_goals
   go_enter func114,ntmps114
   go_wp2_with fail
   all_goals
    go_ret
    refine⟨zJ ?_,rfl⟩;rw[hv.out]
    first
     |rfl
     |(simp only[*,decide_true,decide_false,kL,pW,Bool.and_true,Bool.and_false];done)
     |(rw[bB];simp;done)
     |(rw[bB];simp;omega)
def dl(s:List UInt8):Nat->Nat
 |0=>0
 |k+1=>dl s k+256 ^ k*(s.getD k 0).toNat
theorem yK(s:List UInt8):∀k,dl s k<256 ^ k
 |0=>by show 0<1;exact Nat.one_pos
 |k+1=>by
  have h:=yK s k;have a:(s.getD k 0).toNat<256:=(s.getD k 0).toNat_lt;show dl s k+256 ^ k*(s.getD k 0).toNat<256 ^ (k+1);rw[Nat.pow_succ];have:256 ^ k*(s.getD k 0).toNat<=256 ^ k*255:=Nat.mul_le_mul_left _ oT;omega
def NA(k:Nat):256 ^ k=2 ^ (8*k):=by rw[Nat.pow_mul]
def Rv(s:List UInt8)(k:Nat):dl s k ||| (s.getD k 0).toNat*2 ^ (8*k)=dl s (k+1):=by
 have h:=yK s k;rw[NA]at h;rw[Nat.or_comm,fR, <-Nat.two_pow_add_eq_or_of_lt h];show _=dl s k+256 ^ k*(s.getD k 0).toNat;rw[NA];omega
set_option maxHeartbeats 4000000 in
theorem NB(s:ByteArray)(w:World)(hs:s.size<=4):Calls Tryz.prog 200 #[.string s] w λe w'=>e=.returned (.tuple #[.int .u32 (dl s.data.toList s.size),.int .i64 0])/\w=w':=by
 obtain⟨n,hn⟩:∃n,n=s.size:=⟨_,R⟩;have d4:decide ((4:Int)<s.size)=false:=by simp;omega
 go_enter func200,ntmps200
 go_wp2_with fail
 go_loop [4,11] (λx i=>∃k:Nat,i=.int .i64 k/\k<=s.size/\x=.int .u32 (dl s.data.toList k)) (λ_ i=>s.size-(intOf i).toNat)
 case atStart=>exact⟨0,R,aE _,R⟩
 case round=>
  obtain⟨k,rfl,hk,rfl⟩:=hrel;by_cases hlt:k<s.size
  .have hj:=Rv s.data.toList k;have hl:=yK s.data.toList (k+1);have hl0:=yK s.data.toList k;have hb:s[k].toNat=(s.data.toList.getD k 0).toNat:=by
    rw[aR,bQ,aT hlt];rfl
   have hbl:s[k].toNat<256:=s[k].toNat_lt;have hp:256 ^ (k+1)<=4294967296:=aL (bU dT (oT:k+1<=4)) dT;have hp0:256 ^ k<=16777216:=aL (bU dT (oT:k<=3)) dT;rw[<-hb]at hj;have hsh:s[k].toNat*2 ^ (8*k)<4294967296:=by
    rw[<-NA];exact e5 (Nat.mul_lt_mul_of_lt_of_le hbl hp0 dT) dT
   have hor:Hid (bits .or .u32 ((dl s.data.toList k:Nat):Int) ((s[k].toNat:Int)%4294967296*2 ^ (8*k)%4294967296)=((dl s.data.toList (k+1):Nat):Int)):=by
    show _=_;have e1:((s[k].toNat:Int)%4294967296*2 ^ (8*k)%4294967296)=((s[k].toNat*2 ^ (8*k):Nat):Int):=by
     have e2:(s[k].toNat:Int)%4294967296=(s[k].toNat:Int):=oT;rw[e2];have e3:((s[k].toNat:Int)*2 ^ (8*k))=((s[k].toNat*2 ^ (8*k):Nat):Int):=by simp
     rw[e3];generalize s[k].toNat*2 ^ (8*k)=z at *;omega
    rw[e1,u32_or_nat _ _ oT hsh,hj]
   clear hj hl hl0 hb hbl hp hp0 hsh
   go_wp2_with fail
   go_round
   case rel=>exact⟨k+1,by go_num,oT,by rw[hor.out]⟩
   case measure=>simp[intOf];omega
  .have hk2:k=s.size:=oT;subst hk2
   go_wp2_with fail
   go_ret2
   exact⟨R,R⟩
def Fo(s:ByteArray)(a:s.size<=4):dl s.data.toList s.size<4294967296:=
 e5 (yK _ _) (aL (bU dT a) dT)
def hG(a:Int)(s:ByteArray):Nat:=
 if aj a=3/\s.size=bh a then(if a=11 then cv (dl s.data.toList s.size) 8 else if a=12 then cv (dl s.data.toList s.size) 16 else dl s.data.toList s.size)else 0
def lQ(a:Int):bh a<=4:=by
 unfold bh
 repeat' (split<;>try omega)
set_option maxHeartbeats 4000000 in
theorem UE(op:Int)(s:ByteArray)(w:World)(hs:s.size<9223372036854775808):Calls Tryz.prog 165 #[.int .i64 op,.string s] w λe w'=>e=.returned (.int .u32 (hG op s))/\Below w.heap.size w w':=by
 have ck:=λw=>IP op 0 0 0 0 w;have cs:=λw=>Nz op 0 0 0 0 w;have hz:=lQ op;have M0:=gp.new w #[.int .i64 op,.int .i64 0,.int .i64 0,.int .i64 0,.int .u32 0] 87;have hv:hG op s=if aj op=3/\s.size=bh op then(if op=11 then cv (dl s.data.toList s.size) 8 else if op=12 then cv (dl s.data.toList s.size) 16 else dl s.data.toList s.size)else 0:=rfl
 generalize hG op s=v at *;generalize aj op=k at *;generalize bh op=z at *;by_cases hk:k=3
 .subst hk;by_cases hsz:s.size=z
  .rw[aa ⟨R,hsz⟩]at hv;have cj:=λw=>NB s w oT;have hjl:=Fo s oT;generalize dl s.data.toList s.size=j at *;have q:((s.size:Int) != z)=false:=by simp;omega
   have c8:=λw=>Ic j 8 w dT dT hjl;have c16:=λw=>Ic j 16 w dT dT hjl;have hc:(op=11/\v=cv j 8)\/(op=12/\v=cv j 16)\/(op≠11/\op≠12/\v=j):=by
    by_cases a:op=11
    .exact .inl ⟨a,by rw[hv,aa a]⟩
    .by_cases b:op=12
     .exact .inr (.inl ⟨b,by rw[hv,dZ a,aa b]⟩)
     .exact .inr (.inr ⟨a,b,by rw[hv,dZ a,dZ b]⟩)
   clear hv;rcases hc with ⟨rfl,rfl⟩|⟨rfl,rfl⟩|⟨a,b,rfl⟩
   case' inl=>have cx:=c8
   case' inr.inl=>have cx:=c16
   case' inr.inr=>
    have cx:=c8;have m1:(op==(11:Int))=false:=sU a;have m2:(op==(12:Int))=false:=sU b;clear a b
   all_goals
    go_enter func165,ntmps165
    go_wp2_with fail
    refine(ck _).mono ?_;rintro e w1 ⟨rfl,b1⟩;have M1:=M0.kept b1;have d0:=M1.c 0 _ R;have d1:=M1.c 1 _ R;have d2:=M1.c 2 _ R;have d3:=M1.c 3 _ R;have d4:=M1.c 4 _ R;have hb1:=(cK (w:=w) _).and b1;clear M1 M0 b1
    go_wp2_with fail
    refine(cs _).mono ?_;rintro e w2 ⟨rfl,b2⟩;have hb2:=hb1.and b2;clear hb1 b2 d0 d1 d2 d3 d4
    go_wp2_with fail
    refine(cj _).mono ?_;rintro e w3 ⟨rfl,rfl⟩;clear c8 c16
    go_wp2_with (go_at_call 201;refine(cx _).mono ?_;rintro e w4 ⟨rfl,b4⟩)
    go_ret
    first|exact⟨rfl,hb2.and b4⟩|exact⟨rfl,hb2⟩
  .rw[dZ (λq=>hsz q.2)]at hv;subst hv;have q:((s.size:Int) != z)=true:=by simp;omega
   go_enter func165,ntmps165
   go_wp2_with fail
   refine(ck _).mono ?_;rintro e w1 ⟨rfl,b1⟩;have M1:=M0.kept b1;have d0:=M1.c 0 _ R;have d1:=M1.c 1 _ R;have d2:=M1.c 2 _ R;have d3:=M1.c 3 _ R;have d4:=M1.c 4 _ R;have hb1:=(cK (w:=w) _).and b1;clear M1 M0 b1
   go_wp2_with fail
   refine(cs _).mono ?_;rintro e w2 ⟨rfl,b2⟩;have hb2:=hb1.and b2;clear hb1 b2 d0 d1 d2 d3 d4
   go_wp2_with fail
   go_ret
   exact⟨R,hb2⟩
 .rw[dZ (λq=>hk q.1)]at hv;subst hv;have q:((k:Int) != 3)=true:=by simp;omega
  clear hk
  go_enter func165,ntmps165
  go_wp2_with fail
  refine(ck _).mono ?_;rintro e w1 ⟨rfl,b1⟩;have hb1:=(cK (w:=w) _).and b1;clear M0 b1
  go_wp2_with fail
  go_ret
  exact⟨R,hb1⟩
end Go.Proofs.YtiaekocjeinkjaaGreatDoor
