/- Joined texts. -/
import Derived.Deep.DeepCutAuto
import Derived.Deep.RegionHeld3
import Derived.Test.YtlhofpglndhfaaaGreatDoorS301
import Derived.Test.YtlhofpglndhfaaaGreatDoorS311
import Derived.Test.YtlhofpglndhfaaaGreatDoorS320
import Derived.Test.YtlhofpglndhfaaaGreatDoorS321
set_option linter.unusedVariables false
set_option linter.unusedSimpArgs false
namespace Go.Proofs.YtlhofpglndhfaaaGreatDoor
open Go.RowKit
theorem RD(f:Nat):qC f≤12:=by
 unfold qC;split<;>omega
theorem Pp(f:Nat):(eS f).length≤4:=by
 unfold eS;split<;>simp
theorem BW(w:World):Below w.heap.size w w.drew:=Dp w 1
def encA(k imm:Nat):Nat:=code k ||| (sS (imm / 2 ^ qC (dK k)) (eS (dK k))).1
def Qf(k:Nat)(rd:Int)(imm:Nat):Nat:=if yZ (dK k)=true then setf (encA k imm) 7 5 (rd % 4294967296).toNat else encA k imm
def SL(k:Nat)(rd rs1:Int)(imm:Nat):Nat:=if uL (dK k)=true then setf (Qf k rd imm) 15 5 (rs1 % 4294967296).toNat else Qf k rd imm
theorem MJ(k:Nat)(rd rs1 rs2:Int)(imm:Nat):Hm ⟨k,rd,rs1,rs2,imm⟩=if vL (dK k)=true then setf (SL k rd rs1 imm) 20 5 (rs2 % 4294967296).toNat else SL k rd rs1 imm:=rfl
theorem Kh(k imm:Nat)(h:imm<4294967296):encA k imm<4294967296:=
 mL (n:=32) (Gj _) (BV _ _ (bM (fE _ _) h))
theorem Ki(k:Nat)(rd:Int)(imm:Nat)(h:imm<4294967296):Qf k rd imm<4294967296:=by
 unfold Qf;split
 ·exact Dv _ _ _ _ (by omega) (Kh k imm h)
 ·exact Kh k imm h
theorem Ui(k:Nat)(rd rs1:Int)(imm:Nat)(h:imm<4294967296):SL k rd rs1 imm<4294967296:=by
 unfold SL;split
 ·exact Dv _ _ _ _ (by omega) (Ki k rd imm h)
 ·exact Ki k rd imm h
theorem Pq(r:Int):(r % 4294967296).toNat<4294967296:=by omega
theorem GV(r:Int):r % 4294967296=((r % 4294967296).toNat:Int):=by omega
set_option maxRecDepth 100000 in
set_option maxHeartbeats 8000000 in
theorem Eb(hRD:NC)(k:Nat)(rd rs1 rs2:Int)(imm:Nat)(w:World)(hC:Ds w)(h1:1≤k)(h2:k≤48)(hi:imm<4294967296)(r:SI)(hr:r=yK k (Hm ⟨k,rd,rs1,rs2,imm⟩))(X E:Nat)
  (hX:(r=⟨k,rd,rs1,rs2,imm⟩∧X=Hm ⟨k,rd,rs1,rs2,imm⟩∧E=0)∨(r≠⟨k,rd,rs1,rs2,imm⟩∧X=0∧E=1)):
  Calls Tryz.prog 145 #[.agg #[.int .i64 k,.int .i64 rd,.int .i64 rs1,.int .i64 rs2,.int .u32 imm]] w λ e w'=>e=.returned (.tuple #[.int .u32 X,.int .i64 E])∧Below w.heap.size w w':=by
 have cform:∀ w,Calls Tryz.prog 190 #[.int .i64 k] w λ e w'=>e=.returned (.int .i64 (dK k))∧w=w':=λ w=>Bc k w;have hf1:=MG (k:Int) ⟨by omega,by omega⟩;have hf2:=yY (k:Int);have cread:∀ w,Calls Tryz.prog 195 #[.int .i64 k,.int .u32 (Hm ⟨k,rd,rs1,rs2,imm⟩)] w λ e w'=>e=.returned (.agg #[.int .i64 r.op,.int .i64 r.rd,.int .i64 r.rs1,.int .i64 r.rs2,.int .u32 r.imm])∧Below w.heap.size w w':=λ w=>by
  have:=hRD k (Hm ⟨k,rd,rs1,rs2,imm⟩) w ⟨by omega,by omega⟩ (Pl _ hi);rw[←hr]at this;exact this
 have hA:Hid (code k ||| (sS (imm / 2 ^ qC (dK k)) (eS (dK k))).1=encA k imm):=(rfl:encA k imm=encA k imm);have lA:=Kh k imm hi;have lB:=Ki k rd imm hi;have lC:=Ui k rd rs1 imm hi;have lW:Hm ⟨k,rd,rs1,rs2,imm⟩<4294967296:=Pl _ hi;have HB:Hid (Qf k rd imm=if yZ (dK k)=true then setf (encA k imm) 7 5 (rd % 4294967296).toNat else encA k imm):=(rfl:Qf k rd imm=Qf k rd imm);have HC':Hid (SL k rd rs1 imm=if uL (dK k)=true then setf (Qf k rd imm) 15 5 (rs1 % 4294967296).toNat else Qf k rd imm):=(rfl:SL k rd rs1 imm=SL k rd rs1 imm);have HW:=Lib.hid (MJ k rd rs1 rs2 imm);have hlow:=RD (dK k);have hlen:=Pp (dK k);have hshr:Hid ((imm:Int) / 2 ^ qC (dK k)=((imm / 2 ^ qC (dK k):Nat):Int)):=by show _=_;simp
 have hdl:imm / 2 ^ qC (dK k)<4294967296:=bM (fE _ _) hi;have hsl:(sS (imm / 2 ^ qC (dK k)) (eS (dK k))).1<4294967296:=BV _ _ hdl;have hor:Hid (bits .or .u32 (code k:Nat) ((sS (imm / 2 ^ qC (dK k)) (eS (dK k))).1:Nat)=((encA k imm:Nat):Int)):=by
  show _=_;rw[u32_or_nat _ _ (Gj _) hsl];rfl
 have cnum:∀ w,Calls Tryz.prog 191 #[.int .i64 (dK k)] w λ e w'=>∃ v,e=.returned (.tuple #[v,.int .i64 (qC (dK k))])∧Sl 0 255 2 w' v (eS (dK k)).length ((eS (dK k)).flatMap qZ)∧Below w.heap.size w w':=λ w=>Mj (dK k) hf2 w;have csc:∀ (v:Value) (w:World),Sl 0 255 2 w v (eS (dK k)).length ((eS (dK k)).flatMap qZ)→Calls Tryz.prog 192 #[.int .u32 (imm / 2 ^ qC (dK k):Nat),v] w λ e w'=>e=.returned (.int .u32 (sS (imm / 2 ^ qC (dK k)) (eS (dK k))).1)∧Below w.heap.size w w':=
  λ v w hv=>Kj _ _ 0 _ v w hv rfl (tZ _) (by omega) hdl
 have chas:∀ w,Calls Tryz.prog 193 #[.int .i64 (dK k)] w λ e w'=>e=.returned (.tuple #[.bool (yZ (dK k)),.bool (uL (dK k)),.bool (vL (dK k))])∧w=w':=λ w=>JJ _ hf2 w;have hcode:=Gj k;generalize (sS (imm / 2 ^ qC (dK k)) (eS (dK k))).1=sc at *;have hk0:((dK (k:Int):Int)==0)=false:=by simp;omega
 clear hr;generalize Hm ⟨k,rd,rs1,rs2,imm⟩=W at *;generalize SL k rd rs1 imm=C at *;generalize Qf k rd imm=B at *;generalize encA k imm=A at *;generalize (eS (dK (k:Int))).length=n at *;generalize hq:(eS (dK (k:Int))).flatMap qZ=ps at *;clear hq;generalize yZ (dK (k:Int))=q1 at *;generalize uL (dK (k:Int))=q2 at *;generalize vL (dK (k:Int))=q3 at *;generalize imm / 2 ^ qC (dK (k:Int))=V at *;generalize qC (dK (k:Int))=low at *;generalize dK (k:Int)=f at *;generalize hcd:code k=cd at *;have HX:=Lib.hid hX;clear hX
 go_enter Tryz.func145,Tryz.ntmps145
 go_wp2_with fail
 refine (cform _).mono ?_;rintro e w1 ⟨rfl,rfl⟩
 go_wp2_with fail
 have M1:=Mine.new w #[.int .i64 k,.int .i64 rd,.int .i64 rs1,.int .i64 rs2,.int .u32 imm] 93;have hb1:=cG (w:=w) (.cells #[.int .i64 k,.int .i64 rd,.int .i64 rs1,.int .i64 rs2,.int .u32 imm] 93);refine (cnum _).mono ?_;rintro e w2 ⟨v,rfl,hsv,B2⟩;have M2:=M1.kept B2;have hb2:=hb1.and B2;clear M1 hb1 B2
 go_upto_region 5 with (fail)
 have c0:=M2.c 0 _ rfl;have c1:=M2.c 1 _ rfl;have c2:=M2.c 2 _ rfl;have c3:=M2.c 3 _ rfl;have c4:=M2.c 4 _ rfl;have cc:=(hC.kept hb2) k (by omega);rw[hcd]at cc;have hsd:=hsv.drew;have hk0':(0:Int)≤k:=by omega
 have hk49:(k:Int)<49:=by omega
 go_region_held3 (λ w'=>w'.cell? ⟨w.heap.size,0,none⟩=some (.int .i64 k)∧w'.cell? ⟨w.heap.size,4,none⟩=some (.int .u32 imm)∧w'.cell? ⟨0,k,none⟩=some (.int .u32 cd)) (go_keep)
  (first|(go_at_call 192;rw[hshr.out];refine (csc v _ hsd).mono ?_;rintro e w4 ⟨rfl,B4⟩;have e0:=(M2.drew.kept B4).c 0 _ rfl;have e4:=(M2.drew.kept B4).c 4 _ rfl;have ec:=(B4.cell (p:=⟨0,k,none⟩) (rY cc)).trans cc))
 rw[hor.out];have M4:=M2.drew.kept B4;have hb4:=(hb2.and (BW w2)).and B4;clear M2 hb2 B4 c0 c1 c2 c3 c4 cc e0 e4 ec hsv hsd;have c0:=M4.c 0 _ rfl;have c1:=M4.c 1 _ rfl;have c2:=M4.c 2 _ rfl;have c3:=M4.c 3 _ rfl;have c4:=M4.c 4 _ rfl
 go_wp2_with fail
 refine (chas _).mono ?_;rintro e w5 ⟨rfl,rfl⟩
 go_upto_if 38 with (fail)
 go_cut [7] (λ v wx=>v=.int .u32 B∧w4=wx)
 case first=>
  cases q1 with
  |false=>
   have he:Hid (B=A):=HB.out
   go_wp2_with fail
   go_meet
   case rel=>exact⟨by rw[he.out],rfl⟩
  |true=>
   have he:Hid (B=setf A 7 5 (rd % 4294967296).toNat):=HB.out;have hq:=Lib.hid (GV rd)
   go_wp2_with (go_at_call 194;rw[hq.out];refine (QL A 7 5 (rd % 4294967296).toNat _ (by decide) (by decide) lA (Pq _)).mono ?_;rw[←he.out];rintro e w' ⟨rfl,rfl⟩)
   go_meet
   case rel=>exact⟨rfl,rfl⟩
 case rest=>
 obtain⟨rfl,rfl⟩:=hcut
 go_upto_if 44 with (fail)
 go_cut [7] (λ v wx=>v=.int .u32 C∧w4=wx)
 case first=>
  cases q2 with
  |false=>
   have he:Hid (C=B):=HC'.out
   go_wp2_with fail
   go_meet
   case rel=>exact⟨by rw[he.out],rfl⟩
  |true=>
   have he:Hid (C=setf B 15 5 (rs1 % 4294967296).toNat):=HC'.out;have hq:=Lib.hid (GV rs1)
   go_wp2_with (go_at_call 194;rw[hq.out];refine (QL B 15 5 (rs1 % 4294967296).toNat _ (by decide) (by decide) lB (Pq _)).mono ?_;rw[←he.out];rintro e w' ⟨rfl,rfl⟩)
   go_meet
   case rel=>exact⟨rfl,rfl⟩
 case rest=>
 obtain⟨rfl,rfl⟩:=hcut
 go_upto_if 50 with (fail)
 go_cut [7] (λ v wx=>v=.int .u32 W∧w4=wx)
 case first=>
  cases q3 with
  |false=>
   have he:Hid (W=C):=HW.out
   go_wp2_with fail
   go_meet
   case rel=>exact⟨by rw[he.out],rfl⟩
  |true=>
   have he:Hid (W=setf C 20 5 (rs2 % 4294967296).toNat):=HW.out;have hq:=Lib.hid (GV rs2)
   go_wp2_with (go_at_call 194;rw[hq.out];refine (QL C 20 5 (rs2 % 4294967296).toNat _ (by decide) (by decide) lC (Pq _)).mono ?_;rw[←he.out];rintro e w' ⟨rfl,rfl⟩)
   go_meet
   case rel=>exact⟨rfl,rfl⟩
 case rest=>
 obtain⟨rfl,rfl⟩:=hcut
 go_upto_region 13 with (fail)
 clear cform cnum csc chas hor hshr HB HC' HW;rcases HX.out with ⟨rfl,rfl,rfl⟩|⟨hne,rfl,rfl⟩
 ·go_region_held3 (λ w'=>w'.cell? ⟨w.heap.size,0,none⟩=some (.int .i64 k)∧w'.cell? ⟨w.heap.size,1,none⟩=some (.int .i64 rd)∧w'.cell? ⟨w.heap.size,2,none⟩=some (.int .i64 rs1)∧w'.cell? ⟨w.heap.size,3,none⟩=some (.int .i64 rs2)∧w'.cell? ⟨w.heap.size,4,none⟩=some (.int .u32 imm)) (go_keep)
   (first|(go_at_call 195;refine (cread _).mono ?_;rintro e w6 ⟨rfl,B6⟩;have e0:=(M4.drew.kept B6).c 0 _ rfl;have e1:=(M4.drew.kept B6).c 1 _ rfl;have e2:=(M4.drew.kept B6).c 2 _ rfl;have e3:=(M4.drew.kept B6).c 3 _ rfl;have e4:=(M4.drew.kept B6).c 4 _ rfl))
  have hb6:=(hb4.and (BW w4)).and B6;clear B6 M4 hb4 e0 e1 e2 e3 e4 c0 c1 c2 c3 c4
  go_wp2_with fail
  go_ret2
  exact⟨rfl,hb6⟩
 ·obtain⟨o,p,q,s,t⟩:=r;have hw:((o==(k:Int))=false)∨(o=k∧(p==rd)=false)∨(o=k∧rd=p∧(q==rs1)=false)∨(o=k∧rd=p∧rs1=q∧(s==rs2)=false)∨(o=k∧rd=p∧rs1=q∧rs2=s∧((t:Int)==(imm:Int))=false):=by
   by_cases a1:o=k
   ·by_cases a2:p=rd
    ·by_cases a3:q=rs1
     ·by_cases a4:s=rs2
      ·refine .inr (.inr (.inr (.inr ⟨a1,a2.symm,a3.symm,a4.symm,?_⟩)));have:t≠imm:=λ a5=>hne (by rw[a1,a2,a3,a4,a5]);simp;omega
      ·exact .inr (.inr (.inr (.inl ⟨a1,a2.symm,a3.symm,by simpa using a4⟩)))
     ·exact .inr (.inr (.inl ⟨a1,a2.symm,by simpa using a3⟩))
    ·exact .inr (.inl ⟨a1,by simpa using a2⟩)
   ·exact .inl (by simpa using a1)
  clear hne HX;rcases hw with h|⟨rfl,h⟩|⟨rfl,rfl,h⟩|⟨rfl,rfl,rfl,h⟩|⟨rfl,rfl,rfl,rfl,h⟩
  all_goals
   go_region_held3 (λ w'=>w'.cell? ⟨w.heap.size,0,none⟩=some (.int .i64 k)∧w'.cell? ⟨w.heap.size,1,none⟩=some (.int .i64 rd)∧w'.cell? ⟨w.heap.size,2,none⟩=some (.int .i64 rs1)∧w'.cell? ⟨w.heap.size,3,none⟩=some (.int .i64 rs2)∧w'.cell? ⟨w.heap.size,4,none⟩=some (.int .u32 imm)) (go_keep)
    (first|(go_at_call 195;refine (cread _).mono ?_;rintro e w6 ⟨rfl,B6⟩;have e0:=(M4.drew.kept B6).c 0 _ rfl;have e1:=(M4.drew.kept B6).c 1 _ rfl;have e2:=(M4.drew.kept B6).c 2 _ rfl;have e3:=(M4.drew.kept B6).c 3 _ rfl;have e4:=(M4.drew.kept B6).c 4 _ rfl))
   have hb6:=(hb4.and (BW w4)).and B6;clear B6 M4 hb4 e0 e1 e2 e3 e4 c0 c1 c2 c3 c4
   go_wp2_with fail
   go_ret2
   exact⟨rfl,hb6⟩
def okE(i:SI):Prop:=1≤i.op∧i.op≤48∧yK i.op (Hm i)=i
theorem GW(x:Nat):(fS x).imm<4294967296:=by
 unfold fS;split
 ·show 0<4294967296;omega
 ·exact Pm _ _ (yY _)
theorem ZF(x:Nat)(hk:MX x≠0)(hx:x<4294967296):okE ⟨(fS x).op,(fS x).rd,(fS x).rs1,(fS x).rs2,(fS x).imm⟩:=by
 obtain⟨h1,h2, -⟩:=Yv x hk;have hd:fS x=yK (MX x) x:=by unfold fS;rw[if_neg hk]
 show okE (fS x);have ho:(fS x).op=MX x:=by rw[hd];rfl
 refine⟨by rw[ho];omega,by rw[ho];omega,?_⟩;rw[ZE x hk hx,ho, ←hd]
theorem MK(op:Int)(h: ¬ (1≤op∧op≤48)):dK op=0:=by
 unfold dK;rw[if_pos (by omega)]
theorem Pr(hRD:NC)(op rd rs1 rs2:Int)(imm:Nat)(w:World)(hC:Ds w)(hi:imm<4294967296)(h:okE ⟨op,rd,rs1,rs2,imm⟩):
  Calls Tryz.prog 145 #[.agg #[.int .i64 op,.int .i64 rd,.int .i64 rs1,.int .i64 rs2,.int .u32 imm]] w λ e w'=>e=.returned (.tuple #[.int .u32 (Hm ⟨op,rd,rs1,rs2,imm⟩),.int .i64 0])∧Below w.heap.size w w':=by
 obtain⟨h1,h2,h3⟩:=h;dsimp only at h1 h2 h3;obtain⟨k,rfl⟩:∃ k:Nat,op=k:=⟨op.toNat,by omega⟩;exact Eb hRD k rd rs1 rs2 imm w hC (by omega) (by omega) hi _ rfl _ 0 (.inl ⟨h3,rfl,rfl⟩)
theorem Ps(hRD:NC)(op rd rs1 rs2:Int)(imm:Nat)(w:World)(hC:Ds w)(hi:imm<4294967296)(h: ¬ okE ⟨op,rd,rs1,rs2,imm⟩):
  Calls Tryz.prog 145 #[.agg #[.int .i64 op,.int .i64 rd,.int .i64 rs1,.int .i64 rs2,.int .u32 imm]] w λ e w'=>e=.returned (.tuple #[.int .u32 (0:Nat),.int .i64 1])∧Below w.heap.size w w':=by
 by_cases hop:1≤op∧op≤48
 ·obtain⟨k,rfl⟩:∃ k:Nat,op=k:=⟨op.toNat,by omega⟩;exact Eb hRD k rd rs1 rs2 imm w hC (by omega) (by omega) hi _ rfl 0 1 (.inr ⟨λ h3=>h ⟨hop.1,hop.2,h3⟩,rfl,rfl⟩)
 ·have cform:∀ w,Calls Tryz.prog 190 #[.int .i64 op] w λ e w'=>e=.returned (.int .i64 0)∧w=w':=λ w=>by
   have:=Bc op w;rw[MK op hop]at this;exact this
  clear h hop
  go_enter Tryz.func145,Tryz.ntmps145
  go_wp2_with fail
  refine (cform _).mono ?_;rintro e w1 ⟨rfl,rfl⟩
  go_wp2_with fail
  go_ret2
  exact⟨rfl,cG _⟩
end Go.Proofs.YtlhofpglndhfaaaGreatDoor
