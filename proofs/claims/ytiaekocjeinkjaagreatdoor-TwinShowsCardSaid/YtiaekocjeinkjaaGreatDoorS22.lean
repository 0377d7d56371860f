import Derived.Deep.RegionHeld3
import Derived.Test.YtiaekocjeinkjaaGreatDoorS11
import Derived.Test.YtiaekocjeinkjaaGreatDoorS19
import Derived.Test.YtiaekocjeinkjaaGreatDoorS21
set_option linter.all false
namespace Go.Proofs.YtiaekocjeinkjaaGreatDoor
open Go.Proofs.Tryz
open Go.RowKit
def UK(f:Nat):qN f<=12:=by
 unfold qN;split<;>omega
def RB(f:Nat):(eQ f).length<=4:=by
 unfold eQ;split<;>simp
def De(w:World):Below w.heap.size w w.drew:=EC w 1
def il(k a:Nat):Nat:=cm k ||| (tT (a/2 ^ qN (cW k)) (eQ (cW k))).1
def SX(k:Nat)(b:Int)(a:Nat):Nat:=if yW (cW k)=true then bo (il k a) 7 5 (b%4294967296).toNat else il k a
def VQ(k:Nat)(c b:Int)(a:Nat):Nat:=if uS (cW k)=true then bo (SX k c a) 15 5 (b%4294967296).toNat else SX k c a
def Pc(k:Nat)(d a c:Int)(b:Nat):Jw ⟨k,d,a,c,b⟩=if vS (cW k)=true then bo (VQ k d a b) 20 5 (c%4294967296).toNat else VQ k d a b:=rfl
def fl(k a:Nat)(h:a<4294967296):il k a<4294967296:=
 kQ (n:=32) (HZ _) (Dc _ _ (bL (cO _ _) h))
def Ma(k:Nat)(b:Int)(a:Nat)(h:a<4294967296):SX k b a<4294967296:=by
 unfold SX;split
 .exact EJ _ _ _ _ oT (fl k a h)
 exact fl k a h
def XH(k:Nat)(b c:Int)(a:Nat)(h:a<4294967296):VQ k b c a<4294967296:=by
 unfold VQ;split
 .exact EJ _ _ _ _ oT (Ma k b a h)
 exact Ma k b a h
def RC(r:Int):(r%4294967296).toNat<4294967296:=oT
def IR(r:Int):r%4294967296=((r%4294967296).toNat:Int):=oT
set_option maxRecDepth 100000 in
set_option maxHeartbeats 8000000 in
theorem Fu(hRD:PY)(k:Nat)(rd ag0 ag1:Int)(agR:Nat)(w:World)(hC:EE w)(h1:1<=k)(h2:k<=48)(hi:agR<4294967296)(r:SI)(hr:r=xW k (Jw ⟨k,rd,ag0,ag1,agR⟩))(X E:Nat)
  (hX:(r=⟨k,rd,ag0,ag1,agR⟩/\X=Jw ⟨k,rd,ag0,ag1,agR⟩/\E=0)\/(r≠⟨k,rd,ag0,ag1,agR⟩/\X=0/\E=1)):
  Calls Tryz.prog 197 #[.agg #[.int .i64 k,.int .i64 rd,.int .i64 ag0,.int .i64 ag1,.int .u32 agR]] w λe w'=>e=.returned (.tuple #[.int .u32 X,.int .i64 E])/\Below w.heap.size w w':=by
 have cform:∀w,Calls Tryz.prog 199 #[.int .i64 k] w λe w'=>e=.returned (.int .i64 (cW k))/\w=w':=λw=>Cb k w;have hf1:=AY (k:Int) ⟨oT,oT⟩;have hf2:=sB (k:Int);have cread:∀w,Calls Tryz.prog 217 #[.int .i64 k,.int .u32 (Jw ⟨k,rd,ag0,ag1,agR⟩)] w λe w'=>e=.returned (.agg #[.int .i64 r.op,.int .i64 r.rd,.int .i64 r.y,.int .i64 r.A,.int .u32 r.C])/\Below w.heap.size w w':=λw=>by
  have:=hRD k (Jw ⟨k,rd,ag0,ag1,agR⟩) w ⟨oT,oT⟩ (Ry _ hi);rw[<-hr]at this;exact this
 have hA:Hid (cm k ||| (tT (agR/2 ^ qN (cW k)) (eQ (cW k))).1=il k agR):=(R:il k agR=il k agR);have lA:=fl k agR hi;have lB:=Ma k rd agR hi;have lC:=XH k rd ag0 agR hi;have lW:Jw ⟨k,rd,ag0,ag1,agR⟩<4294967296:=Ry _ hi;have HB:Hid (SX k rd agR=if yW (cW k)=true then bo (il k agR) 7 5 (rd%4294967296).toNat else il k agR):=(R:SX k rd agR=SX k rd agR);have HC':Hid (VQ k rd ag0 agR=if uS (cW k)=true then bo (SX k rd agR) 15 5 (ag0%4294967296).toNat else SX k rd agR):=(R:VQ k rd ag0 agR=VQ k rd ag0 agR);have HW:=Lib.hid (Pc k rd ag0 ag1 agR);have hlow:=UK (cW k);have hlen:=RB (cW k);have hshr:Hid ((agR:Int)/2 ^ qN (cW k)=((agR/2 ^ qN (cW k):Nat):Int)):=by show _=_;simp
 have hdl:agR/2 ^ qN (cW k)<4294967296:=bL (cO _ _) hi;have hsl:(tT (agR/2 ^ qN (cW k)) (eQ (cW k))).1<4294967296:=Dc _ _ hdl;have hor:Hid (bits .or .u32 (cm k:Nat) ((tT (agR/2 ^ qN (cW k)) (eQ (cW k))).1:Nat)=((il k agR:Nat):Int)):=by
  show _=_;rw[u32_or_nat _ _ (HZ _) hsl];rfl
 have cnum:∀w,Calls Tryz.prog 221 #[.int .i64 (cW k)] w λe w'=>∃v,e=.returned (.tuple #[v,.int .i64 (qN (cW k))])/\Sl 0 302 2 w' v (eQ (cW k)).length ((eQ (cW k)).flatMap sE)/\Below w.heap.size w w':=λw=>OA (cW k) hf2 w;have csc:∀(v:Value) (w:World),Sl 0 302 2 w v (eQ (cW k)).length ((eQ (cW k)).flatMap sE)->Calls Tryz.prog 222 #[.int .u32 (agR/2 ^ qN (cW k):Nat),v] w λe w'=>e=.returned (.int .u32 (tT (agR/2 ^ qN (cW k)) (eQ (cW k))).1)/\Below w.heap.size w w':=
  λv w hv=>Mb _ _ 0 _ v w hv R (vF _) oT hdl
 have chas:∀w,Calls Tryz.prog 198 #[.int .i64 (cW k)] w λe w'=>e=.returned (.tuple #[.bool (yW (cW k)),.bool (uS (cW k)),.bool (vS (cW k))])/\w=w':=λw=>LB _ hf2 w;have hcode:=HZ k;generalize (tT (agR/2 ^ qN (cW k)) (eQ (cW k))).1=sc at *;have hk0:((cW (k:Int):Int)==0)=false:=by simp;omega
 clear hr;generalize Jw ⟨k,rd,ag0,ag1,agR⟩=W at *;generalize VQ k rd ag0 agR=C at *;generalize SX k rd agR=B at *;generalize il k agR=A at *;generalize (eQ (cW (k:Int))).length=n at *;generalize hq:(eQ (cW (k:Int))).flatMap sE=ps at *;clear hq;generalize yW (cW (k:Int))=q1 at *;generalize uS (cW (k:Int))=q2 at *;generalize vS (cW (k:Int))=q3 at *;generalize agR/2 ^ qN (cW (k:Int))=V at *;generalize qN (cW (k:Int))=low at *;generalize cW (k:Int)=f at *;generalize hcd:cm k=cd at *;have HX:=Lib.hid hX;clear hX
 go_enter func197,ntmps197
 go_wp2_with fail
 refine(cform _).mono ?_;rintro e w1 ⟨rfl,rfl⟩
 go_wp2_with fail
 have M1:=gp.new w #[.int .i64 k,.int .i64 rd,.int .i64 ag0,.int .i64 ag1,.int .u32 agR] 87;have hb1:=cK (w:=w) (.cells #[.int .i64 k,.int .i64 rd,.int .i64 ag0,.int .i64 ag1,.int .u32 agR] 87);refine(cnum _).mono ?_;rintro e w2 ⟨v,rfl,hsv,B2⟩;have M2:=M1.kept B2;have hb2:=hb1.and B2;clear M1 hb1 B2
 go_upto_region 5 with (fail)
 have c0:=M2.c 0 _ R;have c1:=M2.c 1 _ R;have c2:=M2.c 2 _ R;have c3:=M2.c 3 _ R;have c4:=M2.c 4 _ R;have cc:=(hC.kept hb2) k oT;rw[hcd]at cc;have hsd:=hsv.drew;have hk0':(0:Int)<=k:=oT;have hk49:(k:Int)<49:=oT
 go_region_held3 (λw'=>w'.cell? ⟨w.heap.size,0,none⟩=some (.int .i64 k)/\w'.cell? ⟨w.heap.size,4,none⟩=some (.int .u32 agR)/\w'.cell? ⟨0,k,none⟩=some (.int .u32 cd)) (go_keep)
  (first|(go_at_call 222;rw[hshr.out];refine(csc v _ hsd).mono ?_;rintro e w4 ⟨rfl,B4⟩;have e0:=(M2.drew.kept B4).c 0 _ R;have e4:=(M2.drew.kept B4).c 4 _ R;have ec:=(B4.cell (p:=⟨0,k,none⟩) (tH cc)).trans cc))
 rw[hor.out];have M4:=M2.drew.kept B4;have hb4:=(hb2.and (De w2)).and B4;clear M2 hb2 B4 c0 c1 c2 c3 c4 cc e0 e4 ec hsv hsd;have c0:=M4.c 0 _ R;have c1:=M4.c 1 _ R;have c2:=M4.c 2 _ R;have c3:=M4.c 3 _ R;have c4:=M4.c 4 _ R
 go_wp2_with fail
 refine(chas _).mono ?_;rintro e w5 ⟨rfl,rfl⟩
 go_upto_if 38 with (fail)
 go_cut [7] (λv wx=>v=.int .u32 B/\w4=wx)
 case first=>
  cases q1 with
  |false=>
   have he:Hid (B=A):=HB.out
   go_wp2_with fail
   go_meet
   case rel=>exact⟨by rw[he.out],R⟩
  |true=>
   have he:Hid (B=bo A 7 5 (rd%4294967296).toNat):=HB.out;have hq:=Lib.hid (IR rd)
   go_wp2_with (go_at_call 223;rw[hq.out];refine(TJ A 7 5 (rd%4294967296).toNat _ dT dT lA (RC _)).mono ?_;rw[<-he.out];rintro e w' ⟨rfl,rfl⟩)
   go_meet
   case rel=>exact⟨R,R⟩
 case rest=>
 obtain⟨rfl,rfl⟩:=hcut
 go_upto_if 44 with (fail)
 go_cut [7] (λv wx=>v=.int .u32 C/\w4=wx)
 case first=>
  cases q2 with
  |false=>
   have he:Hid (C=B):=HC'.out
   go_wp2_with fail
   go_meet
   case rel=>exact⟨by rw[he.out],R⟩
  |true=>
   have he:Hid (C=bo B 15 5 (ag0%4294967296).toNat):=HC'.out;have hq:=Lib.hid (IR ag0)
   go_wp2_with (go_at_call 223;rw[hq.out];refine(TJ B 15 5 (ag0%4294967296).toNat _ dT dT lB (RC _)).mono ?_;rw[<-he.out];rintro e w' ⟨rfl,rfl⟩)
   go_meet
   case rel=>exact⟨R,R⟩
 case rest=>
 obtain⟨rfl,rfl⟩:=hcut
 go_upto_if 50 with (fail)
 go_cut [7] (λv wx=>v=.int .u32 W/\w4=wx)
 case first=>
  cases q3 with
  |false=>
   have he:Hid (W=C):=HW.out
   go_wp2_with fail
   go_meet
   case rel=>exact⟨by rw[he.out],R⟩
  |true=>
   have he:Hid (W=bo C 20 5 (ag1%4294967296).toNat):=HW.out;have hq:=Lib.hid (IR ag1)
   go_wp2_with (go_at_call 223;rw[hq.out];refine(TJ C 20 5 (ag1%4294967296).toNat _ dT dT lC (RC _)).mono ?_;rw[<-he.out];rintro e w' ⟨rfl,rfl⟩)
   go_meet
   case rel=>exact⟨R,R⟩
 case rest=>
 obtain⟨rfl,rfl⟩:=hcut
 go_upto_region 13 with (fail)
 clear cform cnum csc chas hor hshr HB HC' HW;rcases HX.out with ⟨rfl,rfl,rfl⟩|⟨hne,rfl,rfl⟩
 .go_region_held3 (λw'=>w'.cell? ⟨w.heap.size,0,none⟩=some (.int .i64 k)/\w'.cell? ⟨w.heap.size,1,none⟩=some (.int .i64 rd)/\w'.cell? ⟨w.heap.size,2,none⟩=some (.int .i64 ag0)/\w'.cell? ⟨w.heap.size,3,none⟩=some (.int .i64 ag1)/\w'.cell? ⟨w.heap.size,4,none⟩=some (.int .u32 agR)) (go_keep)
   (first|(go_at_call 217;refine(cread _).mono ?_;rintro e w6 ⟨rfl,B6⟩;have e0:=(M4.drew.kept B6).c 0 _ R;have e1:=(M4.drew.kept B6).c 1 _ R;have e2:=(M4.drew.kept B6).c 2 _ R;have e3:=(M4.drew.kept B6).c 3 _ R;have e4:=(M4.drew.kept B6).c 4 _ R))
  have hb6:=(hb4.and (De w4)).and B6;clear B6 M4 hb4 e0 e1 e2 e3 e4 c0 c1 c2 c3 c4
  go_wp2_with fail
  go_ret2
  exact⟨R,hb6⟩
 .obtain⟨o,p,q,s,t⟩:=r;have hw:((o==(k:Int))=false)\/(o=k/\(p==rd)=false)\/(o=k/\rd=p/\(q==ag0)=false)\/(o=k/\rd=p/\ag0=q/\(s==ag1)=false)\/(o=k/\rd=p/\ag0=q/\ag1=s/\((t:Int)==(agR:Int))=false):=by
   by_cases a1:o=k
   .by_cases a2:p=rd
    .by_cases a3:q=ag0
     .by_cases a4:s=ag1
      .refine .inr (.inr (.inr (.inr ⟨a1,a2.symm,a3.symm,a4.symm,?_⟩)));have:t≠agR:=λa5=>hne (by rw[a1,a2,a3,a4,a5]);simp;omega
      .exact .inr (.inr (.inr (.inl ⟨a1,a2.symm,a3.symm,sU a4⟩)))
     .exact .inr (.inr (.inl ⟨a1,a2.symm,sU a3⟩))
    .exact .inr (.inl ⟨a1,sU a2⟩)
   .exact .inl (sU a1)
  clear hne HX;rcases hw with h|⟨rfl,h⟩|⟨rfl,rfl,h⟩|⟨rfl,rfl,rfl,h⟩|⟨rfl,rfl,rfl,rfl,h⟩
  all_goals
   go_region_held3 (λw'=>w'.cell? ⟨w.heap.size,0,none⟩=some (.int .i64 k)/\w'.cell? ⟨w.heap.size,1,none⟩=some (.int .i64 rd)/\w'.cell? ⟨w.heap.size,2,none⟩=some (.int .i64 ag0)/\w'.cell? ⟨w.heap.size,3,none⟩=some (.int .i64 ag1)/\w'.cell? ⟨w.heap.size,4,none⟩=some (.int .u32 agR)) (go_keep)
    (first|(go_at_call 217;refine(cread _).mono ?_;rintro e w6 ⟨rfl,B6⟩;have e0:=(M4.drew.kept B6).c 0 _ R;have e1:=(M4.drew.kept B6).c 1 _ R;have e2:=(M4.drew.kept B6).c 2 _ R;have e3:=(M4.drew.kept B6).c 3 _ R;have e4:=(M4.drew.kept B6).c 4 _ R))
   have hb6:=(hb4.and (De w4)).and B6;clear B6 M4 hb4 e0 e1 e2 e3 e4 c0 c1 c2 c3 c4
   go_wp2_with fail
   go_ret2
   exact⟨R,hb6⟩
def md(i:SI):Prop:=1<=i.op/\i.op<=48/\xW i.op (Jw i)=i
def IU(x:Nat):(be x).C<4294967296:=by
 unfold be;split
 .show 0<4294967296;omega
 exact KC _ _ (sB _)
def J6(x:Nat)(a:dq x≠0)(d:x<4294967296):md ⟨(be x).op,(be x).rd,(be x).y,(be x).A,(be x).C⟩:=by
 obtain⟨e,f, -⟩:=Fp x a;have c:be x=xW (dq x) x:=by unfold be;rw[dZ a]
 show md (be x);have b:(be x).op=dq x:=by rw[c];rfl
 refine⟨by rw[b];omega,by rw[b];omega,?_⟩;rw[J5 x a d,b, <-c]
def Pd(a:Int)(h: ¬(1<=a/\a<=48)):cW a=0:=by
 unfold cW;rw[aa oT]
def RD(i:PY)(d f b c:Int)(a:Nat)(w:World)(m:EE w)(n:a<4294967296)(h:md ⟨d,f,b,c,a⟩):
  Calls Tryz.prog 197 #[.agg #[.int .i64 d,.int .i64 f,.int .i64 b,.int .i64 c,.int .u32 a]] w λe w'=>e=.returned (.tuple #[.int .u32 (Jw ⟨d,f,b,c,a⟩),.int .i64 0])/\Below w.heap.size w w':=by
 obtain⟨j,l,g⟩:=h;dsimp only at j l g;obtain⟨k,rfl⟩:∃k:Nat,d=k:=⟨d.toNat,oT⟩;exact Fu i k f b c a w m oT oT n _ R _ 0 (.inl ⟨g,R,R⟩)
def RE(hRD:PY)(op rd ag0 ag1:Int)(agR:Nat)(w:World)(hC:EE w)(hi:agR<4294967296)(h: ¬md ⟨op,rd,ag0,ag1,agR⟩):
  Calls Tryz.prog 197 #[.agg #[.int .i64 op,.int .i64 rd,.int .i64 ag0,.int .i64 ag1,.int .u32 agR]] w λe w'=>e=.returned (.tuple #[.int .u32 (0:Nat),.int .i64 1])/\Below w.heap.size w w':=by
 by_cases hop:1<=op/\op<=48
 .obtain⟨k,rfl⟩:∃k:Nat,op=k:=⟨op.toNat,oT⟩;exact Fu hRD k rd ag0 ag1 agR w hC oT oT hi _ R 0 1 (.inr ⟨λh3=>h ⟨hop.1,hop.2,h3⟩,R,R⟩)
 have cform:∀w,Calls Tryz.prog 199 #[.int .i64 op] w λe w'=>e=.returned (.int .i64 0)/\w=w':=λw=>by
  have:=Cb op w;rw[Pd op hop]at this;exact this
 clear h hop
 go_enter func197,ntmps197
 go_wp2_with fail
 refine(cform _).mono ?_;rintro e w1 ⟨rfl,rfl⟩
 go_wp2_with fail
 go_ret2
 exact⟨R,cK _⟩
end Go.Proofs.YtiaekocjeinkjaaGreatDoor
