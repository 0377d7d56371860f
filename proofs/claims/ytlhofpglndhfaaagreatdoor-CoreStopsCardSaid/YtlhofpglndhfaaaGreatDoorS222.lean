/- Joined texts. -/
import Derived.Deep.DeepCutAuto
import Derived.Deep.RegionHeld3
import Derived.Test.YtlhofpglndhfaaaGreatDoorS201
import Derived.Test.YtlhofpglndhfaaaGreatDoorS211
import Derived.Test.YtlhofpglndhfaaaGreatDoorS220
import Derived.Test.YtlhofpglndhfaaaGreatDoorS221
set_option linter.unusedVariables false
set_option linter.unusedSimpArgs false
namespace Go.Proofs.YtlhofpglndhfaaaGreatDoor
open Go.RowKit
theorem Tj(f:Nat):nO f≤12:=by
 unfold nO;split<;>omega
theorem Qv(f:Nat):(eD f).length≤4:=by
 unfold eD;split<;>simp
theorem CE(w:World):Below w.heap.size w w.drew:=DZ w 1
def encA(k imm:Nat):Nat:=code k ||| (lG (imm / 2 ^ nO (cL k)) (eD (cL k))).1
def RD(k:Nat)(rd:Int)(imm:Nat):Nat:=if uA (cL k)=true then setf (encA k imm) 7 5 (rd % 4294967296).toNat else encA k imm
def UF(k:Nat)(rd rs1:Int)(imm:Nat):Nat:=if pB (cL k)=true then setf (RD k rd imm) 15 5 (rs1 % 4294967296).toNat else RD k rd imm
theorem NS(k:Nat)(rd rs1 rs2:Int)(imm:Nat):wG ⟨k,rd,rs1,rs2,imm⟩=if pZ (cL k)=true then setf (UF k rd rs1 imm) 20 5 (rs2 % 4294967296).toNat else UF k rd rs1 imm:=rfl
theorem Ll(k imm:Nat)(h:imm<4294967296):encA k imm<4294967296:=
 mN (n:=32) (Hr _) (CD _ _ (bI (fJ _ _) h))
theorem Lm(k:Nat)(rd:Int)(imm:Nat)(h:imm<4294967296):RD k rd imm<4294967296:=by
 unfold RD;split
 ·exact Ee _ _ _ _ (by omega) (Ll k imm h)
 ·exact Ll k imm h
theorem Wr(k:Nat)(rd rs1:Int)(imm:Nat)(h:imm<4294967296):UF k rd rs1 imm<4294967296:=by
 unfold UF;split
 ·exact Ee _ _ _ _ (by omega) (Lm k rd imm h)
 ·exact Lm k rd imm h
theorem Qw(r:Int):(r % 4294967296).toNat<4294967296:=by omega
theorem Ij(r:Int):r % 4294967296=((r % 4294967296).toNat:Int):=by omega
set_option maxRecDepth 100000 in
set_option maxHeartbeats 8000000 in
theorem EH(hRD:OV)(k:Nat)(rd rs1 rs2:Int)(imm:Nat)(w:World)(hC:Eb w)(h1:1≤k)(h2:k≤48)(hi:imm<4294967296)(r:SI)(hr:r=lY k (wG ⟨k,rd,rs1,rs2,imm⟩))(X E:Nat)
  (hX:(r=⟨k,rd,rs1,rs2,imm⟩∧X=wG ⟨k,rd,rs1,rs2,imm⟩∧E=0)∨(r≠⟨k,rd,rs1,rs2,imm⟩∧X=0∧E=1)):
  Calls Tryz.prog 145 #[.agg #[.int .i64 k,.int .i64 rd,.int .i64 rs1,.int .i64 rs2,.int .u32 imm]] w λ e w'=>e=.returned (.tuple #[.int .u32 X,.int .i64 E])∧Below w.heap.size w w':=by
 have cform:∀ w,Calls Tryz.prog 190 #[.int .i64 k] w λ e w'=>e=.returned (.int .i64 (cL k))∧w=w':=λ w=>BE k w;have hf1:=Gx (k:Int) ⟨by omega,by omega⟩;have hf2:=uX (k:Int);have cread:∀ w,Calls Tryz.prog 195 #[.int .i64 k,.int .u32 (wG ⟨k,rd,rs1,rs2,imm⟩)] w λ e w'=>e=.returned (.agg #[.int .i64 r.op,.int .i64 r.rd,.int .i64 r.rs1,.int .i64 r.rs2,.int .u32 r.imm])∧Below w.heap.size w w':=λ w=>by
  have:=hRD k (wG ⟨k,rd,rs1,rs2,imm⟩) w ⟨by omega,by omega⟩ (Lj _ hi);rw[←hr]at this;exact this
 have hA:Hid (code k ||| (lG (imm / 2 ^ nO (cL k)) (eD (cL k))).1=encA k imm):=(rfl:encA k imm=encA k imm);have lA:=Ll k imm hi;have lB:=Lm k rd imm hi;have lC:=Wr k rd rs1 imm hi;have lW:wG ⟨k,rd,rs1,rs2,imm⟩<4294967296:=Lj _ hi;have HB:Hid (RD k rd imm=if uA (cL k)=true then setf (encA k imm) 7 5 (rd % 4294967296).toNat else encA k imm):=(rfl:RD k rd imm=RD k rd imm);have HC':Hid (UF k rd rs1 imm=if pB (cL k)=true then setf (RD k rd imm) 15 5 (rs1 % 4294967296).toNat else RD k rd imm):=(rfl:UF k rd rs1 imm=UF k rd rs1 imm);have HW:=Lib.hid (NS k rd rs1 rs2 imm);have hlow:=Tj (cL k);have hlen:=Qv (cL k);have hshr:Hid ((imm:Int) / 2 ^ nO (cL k)=((imm / 2 ^ nO (cL k):Nat):Int)):=by show _=_;simp
 have hdl:imm / 2 ^ nO (cL k)<4294967296:=bI (fJ _ _) hi;have hsl:(lG (imm / 2 ^ nO (cL k)) (eD (cL k))).1<4294967296:=CD _ _ hdl;have hor:Hid (bits .or .u32 (code k:Nat) ((lG (imm / 2 ^ nO (cL k)) (eD (cL k))).1:Nat)=((encA k imm:Nat):Int)):=by
  show _=_;rw[u32_or_nat _ _ (Hr _) hsl];rfl
 have cnum:∀ w,Calls Tryz.prog 191 #[.int .i64 (cL k)] w λ e w'=>∃ v,e=.returned (.tuple #[v,.int .i64 (nO (cL k))])∧Sl 0 255 2 w' v (eD (cL k)).length ((eD (cL k)).flatMap rK)∧Below w.heap.size w w':=λ w=>Nu (cL k) hf2 w;have csc:∀ (v:Value) (w:World),Sl 0 255 2 w v (eD (cL k)).length ((eD (cL k)).flatMap rK)→Calls Tryz.prog 192 #[.int .u32 (imm / 2 ^ nO (cL k):Nat),v] w λ e w'=>e=.returned (.int .u32 (lG (imm / 2 ^ nO (cL k)) (eD (cL k))).1)∧Below w.heap.size w w':=
  λ v w hv=>Ln _ _ 0 _ v w hv rfl (uL _) (by omega) hdl
 have chas:∀ w,Calls Tryz.prog 193 #[.int .i64 (cL k)] w λ e w'=>e=.returned (.tuple #[.bool (uA (cL k)),.bool (pB (cL k)),.bool (pZ (cL k))])∧w=w':=λ w=>KO _ hf2 w;have hcode:=Hr k;generalize (lG (imm / 2 ^ nO (cL k)) (eD (cL k))).1=sc at *;have hk0:((cL (k:Int):Int)==0)=false:=by simp;omega
 clear hr;generalize wG ⟨k,rd,rs1,rs2,imm⟩=W at *;generalize UF k rd rs1 imm=C at *;generalize RD k rd imm=B at *;generalize encA k imm=A at *;generalize (eD (cL (k:Int))).length=n at *;generalize hq:(eD (cL (k:Int))).flatMap rK=ps at *;clear hq;generalize uA (cL (k:Int))=q1 at *;generalize pB (cL (k:Int))=q2 at *;generalize pZ (cL (k:Int))=q3 at *;generalize imm / 2 ^ nO (cL (k:Int))=V at *;generalize nO (cL (k:Int))=low at *;generalize cL (k:Int)=f at *;generalize hcd:code k=cd at *;have HX:=Lib.hid hX;clear hX
 go_enter Tryz.func145,Tryz.ntmps145
 go_wp2_with fail
 refine (cform _).mono ?_;rintro e w1 ⟨rfl,rfl⟩
 go_wp2_with fail
 have M1:=Mine.new w #[.int .i64 k,.int .i64 rd,.int .i64 rs1,.int .i64 rs2,.int .u32 imm] 93;have hb1:=cC (w:=w) (.cells #[.int .i64 k,.int .i64 rd,.int .i64 rs1,.int .i64 rs2,.int .u32 imm] 93);refine (cnum _).mono ?_;rintro e w2 ⟨v,rfl,hsv,B2⟩;have M2:=M1.kept B2;have hb2:=hb1.and B2;clear M1 hb1 B2
 go_upto_region 5 with (fail)
 have c0:=M2.c 0 _ rfl;have c1:=M2.c 1 _ rfl;have c2:=M2.c 2 _ rfl;have c3:=M2.c 3 _ rfl;have c4:=M2.c 4 _ rfl;have cc:=(hC.kept hb2) k (by omega);rw[hcd]at cc;have hsd:=hsv.drew;have hk0':(0:Int)≤k:=by omega
 have hk49:(k:Int)<49:=by omega
 go_region_held3 (λ w'=>w'.cell? ⟨w.heap.size,0,none⟩=some (.int .i64 k)∧w'.cell? ⟨w.heap.size,4,none⟩=some (.int .u32 imm)∧w'.cell? ⟨0,k,none⟩=some (.int .u32 cd)) (go_keep)
  (first|(go_at_call 192;rw[hshr.out];refine (csc v _ hsd).mono ?_;rintro e w4 ⟨rfl,B4⟩;have e0:=(M2.drew.kept B4).c 0 _ rfl;have e4:=(M2.drew.kept B4).c 4 _ rfl;have ec:=(B4.cell (p:=⟨0,k,none⟩) (sS cc)).trans cc))
 rw[hor.out];have M4:=M2.drew.kept B4;have hb4:=(hb2.and (CE w2)).and B4;clear M2 hb2 B4 c0 c1 c2 c3 c4 cc e0 e4 ec hsv hsd;have c0:=M4.c 0 _ rfl;have c1:=M4.c 1 _ rfl;have c2:=M4.c 2 _ rfl;have c3:=M4.c 3 _ rfl;have c4:=M4.c 4 _ rfl
 go_wp2_with fail
 refine (chas _).mono ?_;rintro e w5 ⟨rfl,rfl⟩
 go_upto_if 38 with (fail)
 go_cut [7] (λ v wx=>v=.int .u32 B∧w4=wx)
 case first=>
  cases q1 with
  |false=>
   have he:Hid (B=A):=HB.out
   go_wp2_with fail
   go_meet
   case rel=>exact⟨by rw[he.out],rfl⟩
  |true=>
   have he:Hid (B=setf A 7 5 (rd % 4294967296).toNat):=HB.out;have hq:=Lib.hid (Ij rd)
   go_wp2_with (go_at_call 194;rw[hq.out];refine (Sn A 7 5 (rd % 4294967296).toNat _ (by decide) (by decide) lA (Qw _)).mono ?_;rw[←he.out];rintro e w' ⟨rfl,rfl⟩)
   go_meet
   case rel=>exact⟨rfl,rfl⟩
 case rest=>
 obtain⟨rfl,rfl⟩:=hcut
 go_upto_if 44 with (fail)
 go_cut [7] (λ v wx=>v=.int .u32 C∧w4=wx)
 case first=>
  cases q2 with
  |false=>
   have he:Hid (C=B):=HC'.out
   go_wp2_with fail
   go_meet
   case rel=>exact⟨by rw[he.out],rfl⟩
  |true=>
   have he:Hid (C=setf B 15 5 (rs1 % 4294967296).toNat):=HC'.out;have hq:=Lib.hid (Ij rs1)
   go_wp2_with (go_at_call 194;rw[hq.out];refine (Sn B 15 5 (rs1 % 4294967296).toNat _ (by decide) (by decide) lB (Qw _)).mono ?_;rw[←he.out];rintro e w' ⟨rfl,rfl⟩)
   go_meet
   case rel=>exact⟨rfl,rfl⟩
 case rest=>
 obtain⟨rfl,rfl⟩:=hcut
 go_upto_if 50 with (fail)
 go_cut [7] (λ v wx=>v=.int .u32 W∧w4=wx)
 case first=>
  cases q3 with
  |false=>
   have he:Hid (W=C):=HW.out
   go_wp2_with fail
   go_meet
   case rel=>exact⟨by rw[he.out],rfl⟩
  |true=>
   have he:Hid (W=setf C 20 5 (rs2 % 4294967296).toNat):=HW.out;have hq:=Lib.hid (Ij rs2)
   go_wp2_with (go_at_call 194;rw[hq.out];refine (Sn C 20 5 (rs2 % 4294967296).toNat _ (by decide) (by decide) lC (Qw _)).mono ?_;rw[←he.out];rintro e w' ⟨rfl,rfl⟩)
   go_meet
   case rel=>exact⟨rfl,rfl⟩
 case rest=>
 obtain⟨rfl,rfl⟩:=hcut
 go_upto_region 13 with (fail)
 clear cform cnum csc chas hor hshr HB HC' HW;rcases HX.out with ⟨rfl,rfl,rfl⟩|⟨hne,rfl,rfl⟩
 ·go_region_held3 (λ w'=>w'.cell? ⟨w.heap.size,0,none⟩=some (.int .i64 k)∧w'.cell? ⟨w.heap.size,1,none⟩=some (.int .i64 rd)∧w'.cell? ⟨w.heap.size,2,none⟩=some (.int .i64 rs1)∧w'.cell? ⟨w.heap.size,3,none⟩=some (.int .i64 rs2)∧w'.cell? ⟨w.heap.size,4,none⟩=some (.int .u32 imm)) (go_keep)
   (first|(go_at_call 195;refine (cread _).mono ?_;rintro e w6 ⟨rfl,B6⟩;have e0:=(M4.drew.kept B6).c 0 _ rfl;have e1:=(M4.drew.kept B6).c 1 _ rfl;have e2:=(M4.drew.kept B6).c 2 _ rfl;have e3:=(M4.drew.kept B6).c 3 _ rfl;have e4:=(M4.drew.kept B6).c 4 _ rfl))
  have hb6:=(hb4.and (CE w4)).and B6;clear B6 M4 hb4 e0 e1 e2 e3 e4 c0 c1 c2 c3 c4
  go_wp2_with fail
  go_ret2
  exact⟨rfl,hb6⟩
 ·obtain⟨o,p,q,s,t⟩:=r;have hw:((o==(k:Int))=false)∨(o=k∧(p==rd)=false)∨(o=k∧rd=p∧(q==rs1)=false)∨(o=k∧rd=p∧rs1=q∧(s==rs2)=false)∨(o=k∧rd=p∧rs1=q∧rs2=s∧((t:Int)==(imm:Int))=false):=by
   by_cases a1:o=k
   ·by_cases a2:p=rd
    ·by_cases a3:q=rs1
     ·by_cases a4:s=rs2
      ·refine .inr (.inr (.inr (.inr ⟨a1,a2.symm,a3.symm,a4.symm,?_⟩)));have:t≠imm:=λ a5=>hne (by rw[a1,a2,a3,a4,a5]);simp;omega
      ·exact .inr (.inr (.inr (.inl ⟨a1,a2.symm,a3.symm,by simpa using a4⟩)))
     ·exact .inr (.inr (.inl ⟨a1,a2.symm,by simpa using a3⟩))
    ·exact .inr (.inl ⟨a1,by simpa using a2⟩)
   ·exact .inl (by simpa using a1)
  clear hne HX;rcases hw with h|⟨rfl,h⟩|⟨rfl,rfl,h⟩|⟨rfl,rfl,rfl,h⟩|⟨rfl,rfl,rfl,rfl,h⟩
  all_goals
   go_region_held3 (λ w'=>w'.cell? ⟨w.heap.size,0,none⟩=some (.int .i64 k)∧w'.cell? ⟨w.heap.size,1,none⟩=some (.int .i64 rd)∧w'.cell? ⟨w.heap.size,2,none⟩=some (.int .i64 rs1)∧w'.cell? ⟨w.heap.size,3,none⟩=some (.int .i64 rs2)∧w'.cell? ⟨w.heap.size,4,none⟩=some (.int .u32 imm)) (go_keep)
    (first|(go_at_call 195;refine (cread _).mono ?_;rintro e w6 ⟨rfl,B6⟩;have e0:=(M4.drew.kept B6).c 0 _ rfl;have e1:=(M4.drew.kept B6).c 1 _ rfl;have e2:=(M4.drew.kept B6).c 2 _ rfl;have e3:=(M4.drew.kept B6).c 3 _ rfl;have e4:=(M4.drew.kept B6).c 4 _ rfl))
   have hb6:=(hb4.and (CE w4)).and B6;clear B6 M4 hb4 e0 e1 e2 e3 e4 c0 c1 c2 c3 c4
   go_wp2_with fail
   go_ret2
   exact⟨rfl,hb6⟩
def okE(i:SI):Prop:=1≤i.op∧i.op≤48∧lY i.op (wG i)=i
theorem Ik(x:Nat):(lL x).imm<4294967296:=by
 unfold lL;split
 ·show 0<4294967296;omega
 ·exact JG _ _ (uX _)
theorem Ws(x:Nat)(hk:Fr x≠0)(hx:x<4294967296):okE ⟨(lL x).op,(lL x).rd,(lL x).rs1,(lL x).rs2,(lL x).imm⟩:=by
 obtain⟨h1,h2, -⟩:=JH x hk;have hd:lL x=lY (Fr x) x:=by unfold lL;rw[if_neg hk]
 show okE (lL x);have ho:(lL x).op=Fr x:=by rw[hd];rfl
 refine⟨by rw[ho];omega,by rw[ho];omega,?_⟩;rw[Wp x hk hx,ho, ←hd]
theorem NT(op:Int)(h: ¬ (1≤op∧op≤48)):cL op=0:=by
 unfold cL;rw[if_pos (by omega)]
theorem Qx(hRD:OV)(op rd rs1 rs2:Int)(imm:Nat)(w:World)(hC:Eb w)(hi:imm<4294967296)(h:okE ⟨op,rd,rs1,rs2,imm⟩):
  Calls Tryz.prog 145 #[.agg #[.int .i64 op,.int .i64 rd,.int .i64 rs1,.int .i64 rs2,.int .u32 imm]] w λ e w'=>e=.returned (.tuple #[.int .u32 (wG ⟨op,rd,rs1,rs2,imm⟩),.int .i64 0])∧Below w.heap.size w w':=by
 obtain⟨h1,h2,h3⟩:=h;dsimp only at h1 h2 h3;obtain⟨k,rfl⟩:∃ k:Nat,op=k:=⟨op.toNat,by omega⟩;exact EH hRD k rd rs1 rs2 imm w hC (by omega) (by omega) hi _ rfl _ 0 (.inl ⟨h3,rfl,rfl⟩)
theorem Qy(hRD:OV)(op rd rs1 rs2:Int)(imm:Nat)(w:World)(hC:Eb w)(hi:imm<4294967296)(h: ¬ okE ⟨op,rd,rs1,rs2,imm⟩):
  Calls Tryz.prog 145 #[.agg #[.int .i64 op,.int .i64 rd,.int .i64 rs1,.int .i64 rs2,.int .u32 imm]] w λ e w'=>e=.returned (.tuple #[.int .u32 (0:Nat),.int .i64 1])∧Below w.heap.size w w':=by
 by_cases hop:1≤op∧op≤48
 ·obtain⟨k,rfl⟩:∃ k:Nat,op=k:=⟨op.toNat,by omega⟩;exact EH hRD k rd rs1 rs2 imm w hC (by omega) (by omega) hi _ rfl 0 1 (.inr ⟨λ h3=>h ⟨hop.1,hop.2,h3⟩,rfl,rfl⟩)
 ·have cform:∀ w,Calls Tryz.prog 190 #[.int .i64 op] w λ e w'=>e=.returned (.int .i64 0)∧w=w':=λ w=>by
   have:=BE op w;rw[NT op hop]at this;exact this
  clear h hop
  go_enter Tryz.func145,Tryz.ntmps145
  go_wp2_with fail
  refine (cform _).mono ?_;rintro e w1 ⟨rfl,rfl⟩
  go_wp2_with fail
  go_ret2
  exact⟨rfl,cC _⟩
end Go.Proofs.YtlhofpglndhfaaaGreatDoor
