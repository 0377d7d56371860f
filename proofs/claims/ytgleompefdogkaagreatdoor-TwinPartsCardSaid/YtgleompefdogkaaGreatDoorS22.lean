/- Joined texts. -/
import Derived.Deep.DeepCutAuto
import Derived.Deep.RegionHeld3
import Derived.Test.YtgleompefdogkaaGreatDoorS1
import Derived.Test.YtgleompefdogkaaGreatDoorS11
import Derived.Test.YtgleompefdogkaaGreatDoorS20
import Derived.Test.YtgleompefdogkaaGreatDoorS21
set_option linter.unusedVariables false
set_option linter.unusedSimpArgs false
set_option linter.defProp false
namespace Go.Proofs.YtgleompefdogkaaGreatDoor
open Go.RowKit
def Tt(f:Nat):nV f<=12:=by
 unfold nV;split<;>omega
def QD(f:Nat):(eB f).length<=4:=by
 unfold eB;split<;>simp
def CQ(w:World):Below w.heap.size w w.drew:=Ei w 1
def encA(k imm:Nat):Nat:=code k ||| (lJ (imm/2 ^ nV (cS k)) (eB (cS k))).1
def RC(k:Nat)(rd:Int)(imm:Nat):Nat:=if uS (cS k)=true then setf (encA k imm) 7 5 (rd%4294967296).toNat else encA k imm
def Uz(k:Nat)(rd rs1:Int)(imm:Nat):Nat:=if pI (cS k)=true then setf (RC k rd imm) 15 5 (rs1%4294967296).toNat else RC k rd imm
def Oc(k:Nat)(rd rs1 rs2:Int)(imm:Nat):xC ⟨k,rd,rs1,rs2,imm⟩=if qK (cS k)=true then setf (Uz k rd rs1 imm) 20 5 (rs2%4294967296).toNat else Uz k rd rs1 imm:=rfl
def Lt(k imm:Nat)(h:imm<4294967296):encA k imm<4294967296:=
 mU (n:=32) (Ih _) (CN _ _ (bM (fJ _ _) h))
def Lu(k:Nat)(rd:Int)(imm:Nat)(h:imm<4294967296):RC k rd imm<4294967296:=by
 unfold RC;split
 ·exact EP _ _ _ _ (by omega) (Lt k imm h)
 ·exact Lt k imm h
def Wj(k:Nat)(rd rs1:Int)(imm:Nat)(h:imm<4294967296):Uz k rd rs1 imm<4294967296:=by
 unfold Uz;split
 ·exact EP _ _ _ _ (by omega) (Lu k rd imm h)
 ·exact Lu k rd imm h
def QE(r:Int):(r%4294967296).toNat<4294967296:=by omega
def Il(r:Int):r%4294967296=((r%4294967296).toNat:Int):=by omega
set_option maxRecDepth 100000 in
set_option maxHeartbeats 8000000 in
theorem EX(hRD:Qk)(k:Nat)(rd rs1 rs2:Int)(imm:Nat)(w:World)(hC:Lj w)(h1:1<=k)(h2:k<=48)(hi:imm<4294967296)(r:SI)(hr:r=lQ k (xC ⟨k,rd,rs1,rs2,imm⟩))(X E:Nat)
  (hX:(r=⟨k,rd,rs1,rs2,imm⟩∧X=xC ⟨k,rd,rs1,rs2,imm⟩∧E=0)∨(r≠⟨k,rd,rs1,rs2,imm⟩∧X=0∧E=1)):
  Calls Tryz.prog 129 #[.agg #[.int .i64 k,.int .i64 rd,.int .i64 rs1,.int .i64 rs2,.int .u32 imm]] w λe w'=>e=.returned (.tuple #[.int .u32 X,.int .i64 E])∧Below w.heap.size w w':=by
 have cform:∀w,Calls Tryz.prog 131 #[.int .i64 k] w λe w'=>e=.returned (.int .i64 (cS k))∧w=w':=λw=>Cn k w;have hf1:=GE (k:Int) ⟨by omega,by omega⟩;have hf2:=uM (k:Int);have cread:∀w,Calls Tryz.prog 149 #[.int .i64 k,.int .u32 (xC ⟨k,rd,rs1,rs2,imm⟩)] w λe w'=>e=.returned (.agg #[.int .i64 r.op,.int .i64 r.rd,.int .i64 r.rs1,.int .i64 r.rs2,.int .u32 r.imm])∧Below w.heap.size w w':=λw=>by
  have:=hRD k (xC ⟨k,rd,rs1,rs2,imm⟩) w ⟨by omega,by omega⟩ (Lp _ hi);rw[<-hr]at this;exact this
 have hA:Hid (code k ||| (lJ (imm/2 ^ nV (cS k)) (eB (cS k))).1=encA k imm):=(rfl:encA k imm=encA k imm);have lA:=Lt k imm hi;have lB:=Lu k rd imm hi;have lC:=Wj k rd rs1 imm hi;have lW:xC ⟨k,rd,rs1,rs2,imm⟩<4294967296:=Lp _ hi;have HB:Hid (RC k rd imm=if uS (cS k)=true then setf (encA k imm) 7 5 (rd%4294967296).toNat else encA k imm):=(rfl:RC k rd imm=RC k rd imm);have HC':Hid (Uz k rd rs1 imm=if pI (cS k)=true then setf (RC k rd imm) 15 5 (rs1%4294967296).toNat else RC k rd imm):=(rfl:Uz k rd rs1 imm=Uz k rd rs1 imm);have HW:=Lib.hid (Oc k rd rs1 rs2 imm);have hlow:=Tt (cS k);have hlen:=QD (cS k);have hshr:Hid ((imm:Int)/2 ^ nV (cS k)=((imm/2 ^ nV (cS k):Nat):Int)):=by show _=_;simp
 have hdl:imm/2 ^ nV (cS k)<4294967296:=bM (fJ _ _) hi;have hsl:(lJ (imm/2 ^ nV (cS k)) (eB (cS k))).1<4294967296:=CN _ _ hdl;have hor:Hid (bits .or .u32 (code k:Nat) ((lJ (imm/2 ^ nV (cS k)) (eB (cS k))).1:Nat)=((encA k imm:Nat):Int)):=by
  show _=_;rw[u32_or_nat _ _ (Ih _) hsl];rfl
 have cnum:∀w,Calls Tryz.prog 152 #[.int .i64 (cS k)] w λe w'=>∃v,e=.returned (.tuple #[v,.int .i64 (nV (cS k))])∧Sl 0 252 2 w' v (eB (cS k)).length ((eB (cS k)).flatMap sT)∧Below w.heap.size w w':=λw=>NT (cS k) hf2 w;have csc:∀(v:Value) (w:World),Sl 0 252 2 w v (eB (cS k)).length ((eB (cS k)).flatMap sT)->Calls Tryz.prog 153 #[.int .u32 (imm/2 ^ nV (cS k):Nat),v] w λe w'=>e=.returned (.int .u32 (lJ (imm/2 ^ nV (cS k)) (eB (cS k))).1)∧Below w.heap.size w w':=
  λv w hv=>Lv _ _ 0 _ v w hv rfl (vH _) (by omega) hdl
 have chas:∀w,Calls Tryz.prog 130 #[.int .i64 (cS k)] w λe w'=>e=.returned (.tuple #[.bool (uS (cS k)),.bool (pI (cS k)),.bool (qK (cS k))])∧w=w':=λw=>Lm _ hf2 w;have hcode:=Ih k;generalize (lJ (imm/2 ^ nV (cS k)) (eB (cS k))).1=sc at *;have hk0:((cS (k:Int):Int)==0)=false:=by simp;omega
 clear hr;generalize xC ⟨k,rd,rs1,rs2,imm⟩=W at *;generalize Uz k rd rs1 imm=C at *;generalize RC k rd imm=B at *;generalize encA k imm=A at *;generalize (eB (cS (k:Int))).length=n at *;generalize hq:(eB (cS (k:Int))).flatMap sT=ps at *;clear hq;generalize uS (cS (k:Int))=q1 at *;generalize pI (cS (k:Int))=q2 at *;generalize qK (cS (k:Int))=q3 at *;generalize imm/2 ^ nV (cS (k:Int))=V at *;generalize nV (cS (k:Int))=low at *;generalize cS (k:Int)=f at *;generalize hcd:code k=cd at *;have HX:=Lib.hid hX;clear hX
 go_enter Tryz.func129,Tryz.ntmps129
 go_wp2_with fail
 refine(cform _).mono ?_;rintro e w1 ⟨rfl,rfl⟩
 go_wp2_with fail
 have M1:=Mine.new w #[.int .i64 k,.int .i64 rd,.int .i64 rs1,.int .i64 rs2,.int .u32 imm] 93;have hb1:=cJ (w:=w) (.cells #[.int .i64 k,.int .i64 rd,.int .i64 rs1,.int .i64 rs2,.int .u32 imm] 93);refine(cnum _).mono ?_;rintro e w2 ⟨v,rfl,hsv,B2⟩;have M2:=M1.kept B2;have hb2:=hb1.and B2;clear M1 hb1 B2
 go_upto_region 5 with (fail)
 have c0:=M2.c 0 _ rfl;have c1:=M2.c 1 _ rfl;have c2:=M2.c 2 _ rfl;have c3:=M2.c 3 _ rfl;have c4:=M2.c 4 _ rfl;have cc:=(hC.kept hb2) k (by omega);rw[hcd]at cc;have hsd:=hsv.drew;have hk0':(0:Int)<=k:=by omega
 have hk49:(k:Int)<49:=by omega
 go_region_held3 (λw'=>w'.cell? ⟨w.heap.size,0,none⟩=some (.int .i64 k)∧w'.cell? ⟨w.heap.size,4,none⟩=some (.int .u32 imm)∧w'.cell? ⟨0,k,none⟩=some (.int .u32 cd)) (go_keep)
  (first|(go_at_call 153;rw[hshr.out];refine(csc v _ hsd).mono ?_;rintro e w4 ⟨rfl,B4⟩;have e0:=(M2.drew.kept B4).c 0 _ rfl;have e4:=(M2.drew.kept B4).c 4 _ rfl;have ec:=(B4.cell (p:=⟨0,k,none⟩) (tL cc)).trans cc))
 rw[hor.out];have M4:=M2.drew.kept B4;have hb4:=(hb2.and (CQ w2)).and B4;clear M2 hb2 B4 c0 c1 c2 c3 c4 cc e0 e4 ec hsv hsd;have c0:=M4.c 0 _ rfl;have c1:=M4.c 1 _ rfl;have c2:=M4.c 2 _ rfl;have c3:=M4.c 3 _ rfl;have c4:=M4.c 4 _ rfl
 go_wp2_with fail
 refine(chas _).mono ?_;rintro e w5 ⟨rfl,rfl⟩
 go_upto_if 38 with (fail)
 go_cut [7] (λv wx=>v=.int .u32 B∧w4=wx)
 case first=>
  cases q1 with
  |false=>
   have he:Hid (B=A):=HB.out
   go_wp2_with fail
   go_meet
   case rel=>exact⟨by rw[he.out],rfl⟩
  |true=>
   have he:Hid (B=setf A 7 5 (rd%4294967296).toNat):=HB.out;have hq:=Lib.hid (Il rd)
   go_wp2_with (go_at_call 154;rw[hq.out];refine(Th A 7 5 (rd%4294967296).toNat _ (by decide) (by decide) lA (QE _)).mono ?_;rw[<-he.out];rintro e w' ⟨rfl,rfl⟩)
   go_meet
   case rel=>exact⟨rfl,rfl⟩
 case rest=>
 obtain⟨rfl,rfl⟩:=hcut
 go_upto_if 44 with (fail)
 go_cut [7] (λv wx=>v=.int .u32 C∧w4=wx)
 case first=>
  cases q2 with
  |false=>
   have he:Hid (C=B):=HC'.out
   go_wp2_with fail
   go_meet
   case rel=>exact⟨by rw[he.out],rfl⟩
  |true=>
   have he:Hid (C=setf B 15 5 (rs1%4294967296).toNat):=HC'.out;have hq:=Lib.hid (Il rs1)
   go_wp2_with (go_at_call 154;rw[hq.out];refine(Th B 15 5 (rs1%4294967296).toNat _ (by decide) (by decide) lB (QE _)).mono ?_;rw[<-he.out];rintro e w' ⟨rfl,rfl⟩)
   go_meet
   case rel=>exact⟨rfl,rfl⟩
 case rest=>
 obtain⟨rfl,rfl⟩:=hcut
 go_upto_if 50 with (fail)
 go_cut [7] (λv wx=>v=.int .u32 W∧w4=wx)
 case first=>
  cases q3 with
  |false=>
   have he:Hid (W=C):=HW.out
   go_wp2_with fail
   go_meet
   case rel=>exact⟨by rw[he.out],rfl⟩
  |true=>
   have he:Hid (W=setf C 20 5 (rs2%4294967296).toNat):=HW.out;have hq:=Lib.hid (Il rs2)
   go_wp2_with (go_at_call 154;rw[hq.out];refine(Th C 20 5 (rs2%4294967296).toNat _ (by decide) (by decide) lC (QE _)).mono ?_;rw[<-he.out];rintro e w' ⟨rfl,rfl⟩)
   go_meet
   case rel=>exact⟨rfl,rfl⟩
 case rest=>
 obtain⟨rfl,rfl⟩:=hcut
 go_upto_region 13 with (fail)
 clear cform cnum csc chas hor hshr HB HC' HW;rcases HX.out with ⟨rfl,rfl,rfl⟩|⟨hne,rfl,rfl⟩
 ·go_region_held3 (λw'=>w'.cell? ⟨w.heap.size,0,none⟩=some (.int .i64 k)∧w'.cell? ⟨w.heap.size,1,none⟩=some (.int .i64 rd)∧w'.cell? ⟨w.heap.size,2,none⟩=some (.int .i64 rs1)∧w'.cell? ⟨w.heap.size,3,none⟩=some (.int .i64 rs2)∧w'.cell? ⟨w.heap.size,4,none⟩=some (.int .u32 imm)) (go_keep)
   (first|(go_at_call 149;refine(cread _).mono ?_;rintro e w6 ⟨rfl,B6⟩;have e0:=(M4.drew.kept B6).c 0 _ rfl;have e1:=(M4.drew.kept B6).c 1 _ rfl;have e2:=(M4.drew.kept B6).c 2 _ rfl;have e3:=(M4.drew.kept B6).c 3 _ rfl;have e4:=(M4.drew.kept B6).c 4 _ rfl))
  have hb6:=(hb4.and (CQ w4)).and B6;clear B6 M4 hb4 e0 e1 e2 e3 e4 c0 c1 c2 c3 c4
  go_wp2_with fail
  go_ret2
  exact⟨rfl,hb6⟩
 ·obtain⟨o,p,q,s,t⟩:=r;have hw:((o==(k:Int))=false)∨(o=k∧(p==rd)=false)∨(o=k∧rd=p∧(q==rs1)=false)∨(o=k∧rd=p∧rs1=q∧(s==rs2)=false)∨(o=k∧rd=p∧rs1=q∧rs2=s∧((t:Int)==(imm:Int))=false):=by
   by_cases a1:o=k
   ·by_cases a2:p=rd
    ·by_cases a3:q=rs1
     ·by_cases a4:s=rs2
      ·refine .inr (.inr (.inr (.inr ⟨a1,a2.symm,a3.symm,a4.symm,?_⟩)));have:t≠imm:=λa5=>hne (by rw[a1,a2,a3,a4,a5]);simp;omega
      ·exact .inr (.inr (.inr (.inl ⟨a1,a2.symm,a3.symm,by simpa using a4⟩)))
     ·exact .inr (.inr (.inl ⟨a1,a2.symm,by simpa using a3⟩))
    ·exact .inr (.inl ⟨a1,by simpa using a2⟩)
   ·exact .inl (by simpa using a1)
  clear hne HX;rcases hw with h|⟨rfl,h⟩|⟨rfl,rfl,h⟩|⟨rfl,rfl,rfl,h⟩|⟨rfl,rfl,rfl,rfl,h⟩
  all_goals
   go_region_held3 (λw'=>w'.cell? ⟨w.heap.size,0,none⟩=some (.int .i64 k)∧w'.cell? ⟨w.heap.size,1,none⟩=some (.int .i64 rd)∧w'.cell? ⟨w.heap.size,2,none⟩=some (.int .i64 rs1)∧w'.cell? ⟨w.heap.size,3,none⟩=some (.int .i64 rs2)∧w'.cell? ⟨w.heap.size,4,none⟩=some (.int .u32 imm)) (go_keep)
    (first|(go_at_call 149;refine(cread _).mono ?_;rintro e w6 ⟨rfl,B6⟩;have e0:=(M4.drew.kept B6).c 0 _ rfl;have e1:=(M4.drew.kept B6).c 1 _ rfl;have e2:=(M4.drew.kept B6).c 2 _ rfl;have e3:=(M4.drew.kept B6).c 3 _ rfl;have e4:=(M4.drew.kept B6).c 4 _ rfl))
   have hb6:=(hb4.and (CQ w4)).and B6;clear B6 M4 hb4 e0 e1 e2 e3 e4 c0 c1 c2 c3 c4
   go_wp2_with fail
   go_ret2
   exact⟨rfl,hb6⟩
def okE(i:SI):Prop:=1<=i.op∧i.op<=48∧lQ i.op (xC i)=i
def Im(x:Nat):(kJ x).imm<4294967296:=by
 unfold kJ;split
 ·show 0<4294967296;omega
 ·exact EU _ _ (uM _)
def Wk(x:Nat)(hk:EM x≠0)(hx:x<4294967296):okE ⟨(kJ x).op,(kJ x).rd,(kJ x).rs1,(kJ x).rs2,(kJ x).imm⟩:=by
 obtain⟨h1,h2, -⟩:=JM x hk;have hd:kJ x=lQ (EM x) x:=by unfold kJ;rw[if_neg hk]
 show okE (kJ x);have ho:(kJ x).op=EM x:=by rw[hd];rfl
 refine⟨by rw[ho];omega,by rw[ho];omega,?_⟩;rw[Wg x hk hx,ho, <-hd]
def Od(op:Int)(h: ¬(1<=op∧op<=48)):cS op=0:=by
 unfold cS;rw[if_pos (by omega)]
def QF(hRD:Qk)(op rd rs1 rs2:Int)(imm:Nat)(w:World)(hC:Lj w)(hi:imm<4294967296)(h:okE ⟨op,rd,rs1,rs2,imm⟩):
  Calls Tryz.prog 129 #[.agg #[.int .i64 op,.int .i64 rd,.int .i64 rs1,.int .i64 rs2,.int .u32 imm]] w λe w'=>e=.returned (.tuple #[.int .u32 (xC ⟨op,rd,rs1,rs2,imm⟩),.int .i64 0])∧Below w.heap.size w w':=by
 obtain⟨h1,h2,h3⟩:=h;dsimp only at h1 h2 h3;obtain⟨k,rfl⟩:∃k:Nat,op=k:=⟨op.toNat,by omega⟩;exact EX hRD k rd rs1 rs2 imm w hC (by omega) (by omega) hi _ rfl _ 0 (.inl ⟨h3,rfl,rfl⟩)
def QG(hRD:Qk)(op rd rs1 rs2:Int)(imm:Nat)(w:World)(hC:Lj w)(hi:imm<4294967296)(h: ¬okE ⟨op,rd,rs1,rs2,imm⟩):
  Calls Tryz.prog 129 #[.agg #[.int .i64 op,.int .i64 rd,.int .i64 rs1,.int .i64 rs2,.int .u32 imm]] w λe w'=>e=.returned (.tuple #[.int .u32 (0:Nat),.int .i64 1])∧Below w.heap.size w w':=by
 by_cases hop:1<=op∧op<=48
 ·obtain⟨k,rfl⟩:∃k:Nat,op=k:=⟨op.toNat,by omega⟩;exact EX hRD k rd rs1 rs2 imm w hC (by omega) (by omega) hi _ rfl 0 1 (.inr ⟨λh3=>h ⟨hop.1,hop.2,h3⟩,rfl,rfl⟩)
 ·have cform:∀w,Calls Tryz.prog 131 #[.int .i64 op] w λe w'=>e=.returned (.int .i64 0)∧w=w':=λw=>by
   have:=Cn op w;rw[Od op hop]at this;exact this
  clear h hop
  go_enter Tryz.func129,Tryz.ntmps129
  go_wp2_with fail
  refine(cform _).mono ?_;rintro e w1 ⟨rfl,rfl⟩
  go_wp2_with fail
  go_ret2
  exact⟨rfl,cJ _⟩
end Go.Proofs.YtgleompefdogkaaGreatDoor
