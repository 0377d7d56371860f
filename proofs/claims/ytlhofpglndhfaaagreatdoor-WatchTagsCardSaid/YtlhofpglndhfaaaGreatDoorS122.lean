/- Joined texts. -/
import Derived.Deep.DeepCutAuto
import Derived.Deep.RegionHeld3
import Derived.Test.YtlhofpglndhfaaaGreatDoorS101
import Derived.Test.YtlhofpglndhfaaaGreatDoorS111
import Derived.Test.YtlhofpglndhfaaaGreatDoorS120
import Derived.Test.YtlhofpglndhfaaaGreatDoorS121
set_option linter.unusedVariables false
set_option linter.unusedSimpArgs false
namespace Go.Proofs.YtlhofpglndhfaaaGreatDoor
open Go.RowKit
theorem SX(f:Nat):nM f≤12:=by
 unfold nM;split<;>omega
theorem Qc(f:Nat):(eB f).length≤4:=by
 unfold eB;split<;>simp
theorem Ck(w:World):Below w.heap.size w w.drew:=DF w 1
def encA(k imm:Nat):Nat:=code k ||| (lI (imm / 2 ^ nM (cN k)) (eB (cN k))).1
def Rk(k:Nat)(rd:Int)(imm:Nat):Nat:=if tR (cN k)=true then setf (encA k imm) 7 5 (rd % 4294967296).toNat else encA k imm
def Un(k:Nat)(rd rs1:Int)(imm:Nat):Nat:=if pB (cN k)=true then setf (Rk k rd imm) 15 5 (rs1 % 4294967296).toNat else Rk k rd imm
theorem Nu(k:Nat)(rd rs1 rs2:Int)(imm:Nat):vZ ⟨k,rd,rs1,rs2,imm⟩=if pX (cN k)=true then setf (Un k rd rs1 imm) 20 5 (rs2 % 4294967296).toNat else Un k rd rs1 imm:=rfl
theorem KR(k imm:Nat)(h:imm<4294967296):encA k imm<4294967296:=
 mP (n:=32) (GX _) (Cj _ _ (bM (fI _ _) h))
theorem KS(k:Nat)(rd:Int)(imm:Nat)(h:imm<4294967296):Rk k rd imm<4294967296:=by
 unfold Rk;split
 ·exact DK _ _ _ _ (by omega) (KR k imm h)
 ·exact KR k imm h
theorem Wb(k:Nat)(rd rs1:Int)(imm:Nat)(h:imm<4294967296):Un k rd rs1 imm<4294967296:=by
 unfold Un;split
 ·exact DK _ _ _ _ (by omega) (KS k rd imm h)
 ·exact KS k rd imm h
theorem Qd(r:Int):(r % 4294967296).toNat<4294967296:=by omega
theorem HG(r:Int):r % 4294967296=((r % 4294967296).toNat:Int):=by omega
set_option maxRecDepth 100000 in
set_option maxHeartbeats 8000000 in
theorem Et(hRD:Ow)(k:Nat)(rd rs1 rs2:Int)(imm:Nat)(w:World)(hC:DH w)(h1:1≤k)(h2:k≤48)(hi:imm<4294967296)(r:SI)(hr:r=lZ k (vZ ⟨k,rd,rs1,rs2,imm⟩))(X E:Nat)
  (hX:(r=⟨k,rd,rs1,rs2,imm⟩∧X=vZ ⟨k,rd,rs1,rs2,imm⟩∧E=0)∨(r≠⟨k,rd,rs1,rs2,imm⟩∧X=0∧E=1)):
  Calls Tryz.prog 145 #[.agg #[.int .i64 k,.int .i64 rd,.int .i64 rs1,.int .i64 rs2,.int .u32 imm]] w λ e w'=>e=.returned (.tuple #[.int .u32 X,.int .i64 E])∧Below w.heap.size w w':=by
 have cform:∀ w,Calls Tryz.prog 190 #[.int .i64 k] w λ e w'=>e=.returned (.int .i64 (cN k))∧w=w':=λ w=>Bn k w;have hf1:=FY (k:Int) ⟨by omega,by omega⟩;have hf2:=uR (k:Int);have cread:∀ w,Calls Tryz.prog 195 #[.int .i64 k,.int .u32 (vZ ⟨k,rd,rs1,rs2,imm⟩)] w λ e w'=>e=.returned (.agg #[.int .i64 r.op,.int .i64 r.rd,.int .i64 r.rs1,.int .i64 r.rs2,.int .u32 r.imm])∧Below w.heap.size w w':=λ w=>by
  have:=hRD k (vZ ⟨k,rd,rs1,rs2,imm⟩) w ⟨by omega,by omega⟩ (KP _ hi);rw[←hr]at this;exact this
 have hA:Hid (code k ||| (lI (imm / 2 ^ nM (cN k)) (eB (cN k))).1=encA k imm):=(rfl:encA k imm=encA k imm);have lA:=KR k imm hi;have lB:=KS k rd imm hi;have lC:=Wb k rd rs1 imm hi;have lW:vZ ⟨k,rd,rs1,rs2,imm⟩<4294967296:=KP _ hi;have HB:Hid (Rk k rd imm=if tR (cN k)=true then setf (encA k imm) 7 5 (rd % 4294967296).toNat else encA k imm):=(rfl:Rk k rd imm=Rk k rd imm);have HC':Hid (Un k rd rs1 imm=if pB (cN k)=true then setf (Rk k rd imm) 15 5 (rs1 % 4294967296).toNat else Rk k rd imm):=(rfl:Un k rd rs1 imm=Un k rd rs1 imm);have HW:=Lib.hid (Nu k rd rs1 rs2 imm);have hlow:=SX (cN k);have hlen:=Qc (cN k);have hshr:Hid ((imm:Int) / 2 ^ nM (cN k)=((imm / 2 ^ nM (cN k):Nat):Int)):=by show _=_;simp
 have hdl:imm / 2 ^ nM (cN k)<4294967296:=bM (fI _ _) hi;have hsl:(lI (imm / 2 ^ nM (cN k)) (eB (cN k))).1<4294967296:=Cj _ _ hdl;have hor:Hid (bits .or .u32 (code k:Nat) ((lI (imm / 2 ^ nM (cN k)) (eB (cN k))).1:Nat)=((encA k imm:Nat):Int)):=by
  show _=_;rw[u32_or_nat _ _ (GX _) hsl];rfl
 have cnum:∀ w,Calls Tryz.prog 191 #[.int .i64 (cN k)] w λ e w'=>∃ v,e=.returned (.tuple #[v,.int .i64 (nM (cN k))])∧Sl 0 255 2 w' v (eB (cN k)).length ((eB (cN k)).flatMap rD)∧Below w.heap.size w w':=λ w=>MT (cN k) hf2 w;have csc:∀ (v:Value) (w:World),Sl 0 255 2 w v (eB (cN k)).length ((eB (cN k)).flatMap rD)→Calls Tryz.prog 192 #[.int .u32 (imm / 2 ^ nM (cN k):Nat),v] w λ e w'=>e=.returned (.int .u32 (lI (imm / 2 ^ nM (cN k)) (eB (cN k))).1)∧Below w.heap.size w w':=
  λ v w hv=>KT _ _ 0 _ v w hv rfl (uF _) (by omega) hdl
 have chas:∀ w,Calls Tryz.prog 193 #[.int .i64 (cN k)] w λ e w'=>e=.returned (.tuple #[.bool (tR (cN k)),.bool (pB (cN k)),.bool (pX (cN k))])∧w=w':=λ w=>Kt _ hf2 w;have hcode:=GX k;generalize (lI (imm / 2 ^ nM (cN k)) (eB (cN k))).1=sc at *;have hk0:((cN (k:Int):Int)==0)=false:=by simp;omega
 clear hr;generalize vZ ⟨k,rd,rs1,rs2,imm⟩=W at *;generalize Un k rd rs1 imm=C at *;generalize Rk k rd imm=B at *;generalize encA k imm=A at *;generalize (eB (cN (k:Int))).length=n at *;generalize hq:(eB (cN (k:Int))).flatMap rD=ps at *;clear hq;generalize tR (cN (k:Int))=q1 at *;generalize pB (cN (k:Int))=q2 at *;generalize pX (cN (k:Int))=q3 at *;generalize imm / 2 ^ nM (cN (k:Int))=V at *;generalize nM (cN (k:Int))=low at *;generalize cN (k:Int)=f at *;generalize hcd:code k=cd at *;have HX:=Lib.hid hX;clear hX
 go_enter Tryz.func145,Tryz.ntmps145
 go_wp2_with fail
 refine (cform _).mono ?_;rintro e w1 ⟨rfl,rfl⟩
 go_wp2_with fail
 have M1:=Mine.new w #[.int .i64 k,.int .i64 rd,.int .i64 rs1,.int .i64 rs2,.int .u32 imm] 93;have hb1:=cF (w:=w) (.cells #[.int .i64 k,.int .i64 rd,.int .i64 rs1,.int .i64 rs2,.int .u32 imm] 93);refine (cnum _).mono ?_;rintro e w2 ⟨v,rfl,hsv,B2⟩;have M2:=M1.kept B2;have hb2:=hb1.and B2;clear M1 hb1 B2
 go_upto_region 5 with (fail)
 have c0:=M2.c 0 _ rfl;have c1:=M2.c 1 _ rfl;have c2:=M2.c 2 _ rfl;have c3:=M2.c 3 _ rfl;have c4:=M2.c 4 _ rfl;have cc:=(hC.kept hb2) k (by omega);rw[hcd]at cc;have hsd:=hsv.drew;have hk0':(0:Int)≤k:=by omega
 have hk49:(k:Int)<49:=by omega
 go_region_held3 (λ w'=>w'.cell? ⟨w.heap.size,0,none⟩=some (.int .i64 k)∧w'.cell? ⟨w.heap.size,4,none⟩=some (.int .u32 imm)∧w'.cell? ⟨0,k,none⟩=some (.int .u32 cd)) (go_keep)
  (first|(go_at_call 192;rw[hshr.out];refine (csc v _ hsd).mono ?_;rintro e w4 ⟨rfl,B4⟩;have e0:=(M2.drew.kept B4).c 0 _ rfl;have e4:=(M2.drew.kept B4).c 4 _ rfl;have ec:=(B4.cell (p:=⟨0,k,none⟩) (sK cc)).trans cc))
 rw[hor.out];have M4:=M2.drew.kept B4;have hb4:=(hb2.and (Ck w2)).and B4;clear M2 hb2 B4 c0 c1 c2 c3 c4 cc e0 e4 ec hsv hsd;have c0:=M4.c 0 _ rfl;have c1:=M4.c 1 _ rfl;have c2:=M4.c 2 _ rfl;have c3:=M4.c 3 _ rfl;have c4:=M4.c 4 _ rfl
 go_wp2_with fail
 refine (chas _).mono ?_;rintro e w5 ⟨rfl,rfl⟩
 go_upto_if 38 with (fail)
 go_cut [7] (λ v wx=>v=.int .u32 B∧w4=wx)
 case first=>
  cases q1 with
  |false=>
   have he:Hid (B=A):=HB.out
   go_wp2_with fail
   go_meet
   case rel=>exact⟨by rw[he.out],rfl⟩
  |true=>
   have he:Hid (B=setf A 7 5 (rd % 4294967296).toNat):=HB.out;have hq:=Lib.hid (HG rd)
   go_wp2_with (go_at_call 194;rw[hq.out];refine (RT A 7 5 (rd % 4294967296).toNat _ (by decide) (by decide) lA (Qd _)).mono ?_;rw[←he.out];rintro e w' ⟨rfl,rfl⟩)
   go_meet
   case rel=>exact⟨rfl,rfl⟩
 case rest=>
 obtain⟨rfl,rfl⟩:=hcut
 go_upto_if 44 with (fail)
 go_cut [7] (λ v wx=>v=.int .u32 C∧w4=wx)
 case first=>
  cases q2 with
  |false=>
   have he:Hid (C=B):=HC'.out
   go_wp2_with fail
   go_meet
   case rel=>exact⟨by rw[he.out],rfl⟩
  |true=>
   have he:Hid (C=setf B 15 5 (rs1 % 4294967296).toNat):=HC'.out;have hq:=Lib.hid (HG rs1)
   go_wp2_with (go_at_call 194;rw[hq.out];refine (RT B 15 5 (rs1 % 4294967296).toNat _ (by decide) (by decide) lB (Qd _)).mono ?_;rw[←he.out];rintro e w' ⟨rfl,rfl⟩)
   go_meet
   case rel=>exact⟨rfl,rfl⟩
 case rest=>
 obtain⟨rfl,rfl⟩:=hcut
 go_upto_if 50 with (fail)
 go_cut [7] (λ v wx=>v=.int .u32 W∧w4=wx)
 case first=>
  cases q3 with
  |false=>
   have he:Hid (W=C):=HW.out
   go_wp2_with fail
   go_meet
   case rel=>exact⟨by rw[he.out],rfl⟩
  |true=>
   have he:Hid (W=setf C 20 5 (rs2 % 4294967296).toNat):=HW.out;have hq:=Lib.hid (HG rs2)
   go_wp2_with (go_at_call 194;rw[hq.out];refine (RT C 20 5 (rs2 % 4294967296).toNat _ (by decide) (by decide) lC (Qd _)).mono ?_;rw[←he.out];rintro e w' ⟨rfl,rfl⟩)
   go_meet
   case rel=>exact⟨rfl,rfl⟩
 case rest=>
 obtain⟨rfl,rfl⟩:=hcut
 go_upto_region 13 with (fail)
 clear cform cnum csc chas hor hshr HB HC' HW;rcases HX.out with ⟨rfl,rfl,rfl⟩|⟨hne,rfl,rfl⟩
 ·go_region_held3 (λ w'=>w'.cell? ⟨w.heap.size,0,none⟩=some (.int .i64 k)∧w'.cell? ⟨w.heap.size,1,none⟩=some (.int .i64 rd)∧w'.cell? ⟨w.heap.size,2,none⟩=some (.int .i64 rs1)∧w'.cell? ⟨w.heap.size,3,none⟩=some (.int .i64 rs2)∧w'.cell? ⟨w.heap.size,4,none⟩=some (.int .u32 imm)) (go_keep)
   (first|(go_at_call 195;refine (cread _).mono ?_;rintro e w6 ⟨rfl,B6⟩;have e0:=(M4.drew.kept B6).c 0 _ rfl;have e1:=(M4.drew.kept B6).c 1 _ rfl;have e2:=(M4.drew.kept B6).c 2 _ rfl;have e3:=(M4.drew.kept B6).c 3 _ rfl;have e4:=(M4.drew.kept B6).c 4 _ rfl))
  have hb6:=(hb4.and (Ck w4)).and B6;clear B6 M4 hb4 e0 e1 e2 e3 e4 c0 c1 c2 c3 c4
  go_wp2_with fail
  go_ret2
  exact⟨rfl,hb6⟩
 ·obtain⟨o,p,q,s,t⟩:=r;have hw:((o==(k:Int))=false)∨(o=k∧(p==rd)=false)∨(o=k∧rd=p∧(q==rs1)=false)∨(o=k∧rd=p∧rs1=q∧(s==rs2)=false)∨(o=k∧rd=p∧rs1=q∧rs2=s∧((t:Int)==(imm:Int))=false):=by
   by_cases a1:o=k
   ·by_cases a2:p=rd
    ·by_cases a3:q=rs1
     ·by_cases a4:s=rs2
      ·refine .inr (.inr (.inr (.inr ⟨a1,a2.symm,a3.symm,a4.symm,?_⟩)));have:t≠imm:=λ a5=>hne (by rw[a1,a2,a3,a4,a5]);simp;omega
      ·exact .inr (.inr (.inr (.inl ⟨a1,a2.symm,a3.symm,by simpa using a4⟩)))
     ·exact .inr (.inr (.inl ⟨a1,a2.symm,by simpa using a3⟩))
    ·exact .inr (.inl ⟨a1,by simpa using a2⟩)
   ·exact .inl (by simpa using a1)
  clear hne HX;rcases hw with h|⟨rfl,h⟩|⟨rfl,rfl,h⟩|⟨rfl,rfl,rfl,h⟩|⟨rfl,rfl,rfl,rfl,h⟩
  all_goals
   go_region_held3 (λ w'=>w'.cell? ⟨w.heap.size,0,none⟩=some (.int .i64 k)∧w'.cell? ⟨w.heap.size,1,none⟩=some (.int .i64 rd)∧w'.cell? ⟨w.heap.size,2,none⟩=some (.int .i64 rs1)∧w'.cell? ⟨w.heap.size,3,none⟩=some (.int .i64 rs2)∧w'.cell? ⟨w.heap.size,4,none⟩=some (.int .u32 imm)) (go_keep)
    (first|(go_at_call 195;refine (cread _).mono ?_;rintro e w6 ⟨rfl,B6⟩;have e0:=(M4.drew.kept B6).c 0 _ rfl;have e1:=(M4.drew.kept B6).c 1 _ rfl;have e2:=(M4.drew.kept B6).c 2 _ rfl;have e3:=(M4.drew.kept B6).c 3 _ rfl;have e4:=(M4.drew.kept B6).c 4 _ rfl))
   have hb6:=(hb4.and (Ck w4)).and B6;clear B6 M4 hb4 e0 e1 e2 e3 e4 c0 c1 c2 c3 c4
   go_wp2_with fail
   go_ret2
   exact⟨rfl,hb6⟩
def okE(i:SI):Prop:=1≤i.op∧i.op≤48∧lZ i.op (vZ i)=i
theorem HH(x:Nat):(lN x).imm<4294967296:=by
 unfold lN;split
 ·show 0<4294967296;omega
 ·exact Ju _ _ (uR _)
theorem Wc(x:Nat)(hk:EU x≠0)(hx:x<4294967296):okE ⟨(lN x).op,(lN x).rd,(lN x).rs1,(lN x).rs2,(lN x).imm⟩:=by
 obtain⟨h1,h2, -⟩:=Jv x hk;have hd:lN x=lZ (EU x) x:=by unfold lN;rw[if_neg hk]
 show okE (lN x);have ho:(lN x).op=EU x:=by rw[hd];rfl
 refine⟨by rw[ho];omega,by rw[ho];omega,?_⟩;rw[VZ x hk hx,ho, ←hd]
theorem Nv(op:Int)(h: ¬ (1≤op∧op≤48)):cN op=0:=by
 unfold cN;rw[if_pos (by omega)]
theorem Qe(hRD:Ow)(op rd rs1 rs2:Int)(imm:Nat)(w:World)(hC:DH w)(hi:imm<4294967296)(h:okE ⟨op,rd,rs1,rs2,imm⟩):
  Calls Tryz.prog 145 #[.agg #[.int .i64 op,.int .i64 rd,.int .i64 rs1,.int .i64 rs2,.int .u32 imm]] w λ e w'=>e=.returned (.tuple #[.int .u32 (vZ ⟨op,rd,rs1,rs2,imm⟩),.int .i64 0])∧Below w.heap.size w w':=by
 obtain⟨h1,h2,h3⟩:=h;dsimp only at h1 h2 h3;obtain⟨k,rfl⟩:∃ k:Nat,op=k:=⟨op.toNat,by omega⟩;exact Et hRD k rd rs1 rs2 imm w hC (by omega) (by omega) hi _ rfl _ 0 (.inl ⟨h3,rfl,rfl⟩)
theorem Qf(hRD:Ow)(op rd rs1 rs2:Int)(imm:Nat)(w:World)(hC:DH w)(hi:imm<4294967296)(h: ¬ okE ⟨op,rd,rs1,rs2,imm⟩):
  Calls Tryz.prog 145 #[.agg #[.int .i64 op,.int .i64 rd,.int .i64 rs1,.int .i64 rs2,.int .u32 imm]] w λ e w'=>e=.returned (.tuple #[.int .u32 (0:Nat),.int .i64 1])∧Below w.heap.size w w':=by
 by_cases hop:1≤op∧op≤48
 ·obtain⟨k,rfl⟩:∃ k:Nat,op=k:=⟨op.toNat,by omega⟩;exact Et hRD k rd rs1 rs2 imm w hC (by omega) (by omega) hi _ rfl 0 1 (.inr ⟨λ h3=>h ⟨hop.1,hop.2,h3⟩,rfl,rfl⟩)
 ·have cform:∀ w,Calls Tryz.prog 190 #[.int .i64 op] w λ e w'=>e=.returned (.int .i64 0)∧w=w':=λ w=>by
   have:=Bn op w;rw[Nv op hop]at this;exact this
  clear h hop
  go_enter Tryz.func145,Tryz.ntmps145
  go_wp2_with fail
  refine (cform _).mono ?_;rintro e w1 ⟨rfl,rfl⟩
  go_wp2_with fail
  go_ret2
  exact⟨rfl,cF _⟩
end Go.Proofs.YtlhofpglndhfaaaGreatDoor
