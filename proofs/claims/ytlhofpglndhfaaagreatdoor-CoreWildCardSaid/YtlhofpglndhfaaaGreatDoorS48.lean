/- Joined texts. -/
import Derived.Test.YtlhofpglndhfaaaGreatDoorS1
import Derived.Test.YtlhofpglndhfaaaGreatDoorS46
import Derived.Test.YtlhofpglndhfaaaGreatDoorS47
import Derived.Test.YtlhofpglndhfaaaGreatDoorS49
set_option linter.unusedVariables false
set_option linter.unusedSimpArgs false
namespace Go.Proofs.YtlhofpglndhfaaaGreatDoor
set_option maxRecDepth 100000
set_option maxHeartbeats 4000000
open Go.RowKit Go.ChangeShapes Go.WideShapes Go.ChangeAt Go.Deep
theorem RX{n:Int}(h:(Lit.int .u32 n).wf=true):∃ m:Nat,n=m∧m≤4294967295:=by
 simp only[Lit.wf,IntKind.min,IntKind.max,IntKind.signed,IntKind.bits,aK,bC]at h;simp at h;exact⟨n.toNat,by omega,by omega⟩
theorem mI{cs:List AV}(h:TyV Tryz.prog 3 cs):∃ n:Int,cs=[.v (.int .i64 n)]∧True:=by
 have hu:=Tryz.underlying3
 cases h with
 |int h n hn=>rw[hu]at h;injection h with h;injection h with h;subst h;exact⟨n,rfl,trivial⟩
 |bool h=>rw[hu]at h;cases h
 |string h=>rw[hu]at h;cases h
 |slice h=>rw[hu]at h;cases h
 |struct h=>rw[hu]at h;cases h
 |array h=>rw[hu]at h;cases h
theorem pX{cs:List AV}(h:TyV Tryz.prog 26 cs):∃ n:Nat,cs=[.v (.int .u32 (n:Int))]∧n≤4294967295:=by
 have hu:=Tryz.underlying26
 cases h with
 |int h n hn=>
  rw[hu]at h;injection h with h;injection h with h;subst h;obtain⟨m,rfl,hm⟩:=RX hn
  exact⟨m,rfl,hm⟩
 |bool h=>rw[hu]at h;cases h
 |string h=>rw[hu]at h;cases h
 |slice h=>rw[hu]at h;cases h
 |struct h=>rw[hu]at h;cases h
 |array h=>rw[hu]at h;cases h
theorem Cd{cs:List AV}(h:TyV Tryz.prog 4 cs):∃ b:Bool,cs=[.v (.bool b)]∧True:=by
 have hu:=Tryz.underlying4
 cases h with
 |bool h b=>exact⟨b,rfl,trivial⟩
 |int h=>rw[hu]at h;cases h
 |string h=>rw[hu]at h;cases h
 |slice h=>rw[hu]at h;cases h
 |struct h=>rw[hu]at h;cases h
 |array h=>rw[hu]at h;cases h
theorem LP{cs:List AV}(h:TyV Tryz.prog 9 cs):∃ b:ByteArray,cs=[.v (.string b)]∧b.size≤maxLen:=by
 have hu:=Tryz.underlying9
 cases h with
 |string h b hb=>exact⟨b,rfl,hb⟩
 |int h=>rw[hu]at h;cases h
 |bool h=>rw[hu]at h;cases h
 |slice h=>rw[hu]at h;cases h
 |struct h=>rw[hu]at h;cases h
 |array h=>rw[hu]at h;cases h
theorem PQ{α:Type}{f:α→List AV}{p:α→Prop}:∀ (rows:List (List AV)),(∀ row∈rows,∃ x,row=f x∧p x)→∃ l:List α,rows=l.map f∧l.length=rows.length∧∀ x∈l,p x
 |[],_=>⟨[],rfl,rfl,λ x h=>by cases h⟩
 |row::rows,h=>by
  obtain⟨x,rfl,hx⟩:=h row (bO);obtain⟨l,rfl,hl,hp⟩:=PQ rows λ r hr=>h r (bZ _ hr);exact⟨x::l,rfl,by simp,λ y hy=>by rcases al_List_mem_cons.1 hy with rfl|hy;exact hx;exact hp y hy⟩
theorem sY{α:Type}{t e:TypeId}{k:Nat}{f:α→List AV}{p:α→Prop}(hu:Tryz.prog.underlying t=some (.slice e))(hk:Tryz.prog.cellsOf e=k)(hrow:∀ row,TyV Tryz.prog e row→∃ x,row=f x∧p x){cs:List AV}(h:TyV Tryz.prog t cs):
  ∃ l:List α,cs=[.sl k (l.map f) false]∧l.length≤9223372036854775807∧∀ x∈l,p x:=by
 cases h with
 |slice h rows hl hr hrs=>
  rw[hu]at h;injection h with h;injection h with h;subst h;subst hk;obtain⟨l,rfl,h1,h2⟩:=PQ rows λ row hrow'=>hrow row (hr row hrow')
  exact⟨l,rfl,aL (Nat.le_of_eq h1) (aL hl (by decide)),h2⟩
 |int h=>rw[hu]at h;cases h
 |bool h=>rw[hu]at h;cases h
 |string h=>rw[hu]at h;cases h
 |struct h=>rw[hu]at h;cases h
 |array h=>rw[hu]at h;cases h
theorem SV{α β:Type}{f g:α→List β}:∀ (l:List α),(∀ x∈l,f x=g x)→l.flatMap f=l.flatMap g
 |[],_=>rfl
 |x::l,h=>by rw[eZ,eZ,h x (bO),SV l (λ y hy=>h y (bZ _ hy))]
abbrev rgL(r:Nat→Nat):List AV:=[.v (.int .u32 (r 0:Int)),.v (.int .u32 (r 1:Int)),.v (.int .u32 (r 2:Int)),.v (.int .u32 (r 3:Int)),.v (.int .u32 (r 4:Int)),.v (.int .u32 (r 5:Int)),.v (.int .u32 (r 6:Int)),.v (.int .u32 (r 7:Int)),.v (.int .u32 (r 8:Int)),.v (.int .u32 (r 9:Int)),.v (.int .u32 (r 10:Int)),.v (.int .u32 (r 11:Int)),.v (.int .u32 (r 12:Int)),.v (.int .u32 (r 13:Int)),.v (.int .u32 (r 14:Int)),.v (.int .u32 (r 15:Int)),.v (.int .u32 (r 16:Int)),.v (.int .u32 (r 17:Int)),.v (.int .u32 (r 18:Int)),.v (.int .u32 (r 19:Int)),.v (.int .u32 (r 20:Int)),.v (.int .u32 (r 21:Int)),.v (.int .u32 (r 22:Int)),.v (.int .u32 (r 23:Int)),.v (.int .u32 (r 24:Int)),.v (.int .u32 (r 25:Int)),.v (.int .u32 (r 26:Int)),.v (.int .u32 (r 27:Int)),.v (.int .u32 (r 28:Int)),.v (.int .u32 (r 29:Int)),.v (.int .u32 (r 30:Int)),.v (.int .u32 (r 31:Int))]
theorem UA{cs:List AV}(h:TyV Tryz.prog 27 cs):∃ r:Nat→Nat,cs=rgL r∧∀ k,r k≤4294967295:=by
 have hu:=Tryz.underlying27
 cases h with
 |bool h=>rw[hu]at h;cases h
 |int h=>rw[hu]at h;cases h
 |string h=>rw[hu]at h;cases h
 |slice h=>rw[hu]at h;cases h
 |struct h=>rw[hu]at h;cases h
 | @array _ e n h parts hp=>
  rw[hu]at h;injection h with h;injection h with h1 h2;subst h1;subst h2;have hj:∀ j,∃ m:Nat,(j<32→parts j=[.v (.int .u32 (m:Int))])∧m≤4294967295:=λ j=>by
   by_cases hlt:j<32
   ·obtain⟨m,h1,h2⟩:=pX (hp j hlt);exact⟨m,λ _=>h1,h2⟩
   ·exact⟨0,λ h=>absurd h hlt,by omega⟩
  obtain⟨r,hr⟩:∃ r:Nat→Nat,∀ j,(j<32→parts j=[.v (.int .u32 (r j:Int))])∧r j≤4294967295:=⟨λ j=>(hj j).choose,λ j=>(hj j).choose_spec⟩;refine⟨r,?_,λ j=>(hr j).2⟩;exact (SV (List.range 32) (λ j hj=>(hr j).1 (mT.1 hj))).trans rfl
theorem Wk{cs:List AV}(h:TyV Tryz.prog 80 cs):∃ x:Wy,cs=wyL x∧x.ok:=by
 have hu:=Tryz.underlying80
 cases h with
 |bool h=>rw[hu]at h;cases h
 |int h=>rw[hu]at h;cases h
 |string h=>rw[hu]at h;cases h
 |slice h=>rw[hu]at h;cases h
 |array h=>rw[hu]at h;cases h
 |struct h parts hp=>
  rw[hu]at h;injection h with h;injection h with h;subst h;obtain⟨x0,e0,p0⟩:=pX (hp 0 _ rfl);obtain⟨x1,e1,p1⟩:=Cd (hp 1 _ rfl);obtain⟨x2,e2,p2⟩:=LP (hp 2 _ rfl);refine⟨⟨x0,x1,x2⟩,?_,⟨p0⟩⟩;show parts 0++(parts 1++(parts 2++[]))=_;rw[e0,e1,e2];rfl
theorem Wl{cs:List AV}(h:TyV Tryz.prog 78 cs):∃ l:List Wy,cs=[.sl 3 (l.map wyL) false]∧l.length≤9223372036854775807∧∀ x∈l,Wy.ok x:=
 sY (f:=wyL) (p:=Wy.ok) Tryz.underlying78 (by kernel_rfl) (λ row hr=>Wk hr) h
theorem UB(row:List AV)(h:TyV Tryz.prog 78 row):∃ s:List Wy,row=cB s∧(s.length≤9223372036854775807∧∀ x∈s,x.ok):=Wl h
theorem UC{cs:List AV}(h:TyV Tryz.prog 31 cs):∃ l:List (List Wy),cs=[.sl 1 (l.map cB) false]∧l.length≤9223372036854775807∧∀ x∈l,(λ s:List Wy=>s.length≤9223372036854775807∧∀ x∈s,x.ok) x:=
 sY (f:=cB) (p:=(λ s:List Wy=>s.length≤9223372036854775807∧∀ x∈s,x.ok)) Tryz.underlying31 (by kernel_rfl) (λ row hr=>UB _ hr) h
theorem LQ{cs:List AV}(h:TyV Tryz.prog 33 cs):∃ x:Ca,cs=caL x false∧x.ok:=by
 have hu:=Tryz.underlying33
 cases h with
 |bool h=>rw[hu]at h;cases h
 |int h=>rw[hu]at h;cases h
 |string h=>rw[hu]at h;cases h
 |slice h=>rw[hu]at h;cases h
 |array h=>rw[hu]at h;cases h
 |struct h parts hp=>
  rw[hu]at h;injection h with h;injection h with h;subst h;obtain⟨x0,e0,p0⟩:=mI (hp 0 _ rfl);obtain⟨x1,e1,p1⟩:=UC (hp 1 _ rfl);refine⟨⟨x0,x1⟩,?_,⟨p1.1,p1.2⟩⟩;show parts 0++(parts 1++[])=_;rw[e0,e1];rfl
theorem Wm{cs:List AV}(h:TyV Tryz.prog 69 cs):∃ x:Req,cs=rqL x∧x.ok:=by
 have hu:=Tryz.underlying69
 cases h with
 |bool h=>rw[hu]at h;cases h
 |int h=>rw[hu]at h;cases h
 |string h=>rw[hu]at h;cases h
 |slice h=>rw[hu]at h;cases h
 |array h=>rw[hu]at h;cases h
 |struct h parts hp=>
  rw[hu]at h;injection h with h;injection h with h;subst h;obtain⟨x0,e0,p0⟩:=mI (hp 0 _ rfl);obtain⟨x1,e1,p1⟩:=pX (hp 1 _ rfl);obtain⟨x2,e2,p2⟩:=mI (hp 2 _ rfl);obtain⟨x3,e3,p3⟩:=LP (hp 3 _ rfl);refine⟨⟨x0,x1,x2,x3⟩,?_,⟨p1⟩⟩;show parts 0++(parts 1++(parts 2++(parts 3++[])))=_;rw[e0,e1,e2,e3];rfl
theorem Wn{cs:List AV}(h:TyV Tryz.prog 34 cs):∃ l:List Req,cs=[.sl 4 (l.map rqL) false]∧l.length≤9223372036854775807∧∀ x∈l,Req.ok x:=
 sY (f:=rqL) (p:=Req.ok) Tryz.underlying34 (by kernel_rfl) (λ row hr=>Wm hr) h
theorem UD{cs:List AV}(h:TyV Tryz.prog 57 cs):∃ x:Sp,cs=spL x∧x.ok:=by
 have hu:=Tryz.underlying57
 cases h with
 |bool h=>rw[hu]at h;cases h
 |int h=>rw[hu]at h;cases h
 |string h=>rw[hu]at h;cases h
 |slice h=>rw[hu]at h;cases h
 |array h=>rw[hu]at h;cases h
 |struct h parts hp=>
  rw[hu]at h;injection h with h;injection h with h;subst h;obtain⟨x0,e0,p0⟩:=pX (hp 0 _ rfl);obtain⟨x1,e1,p1⟩:=pX (hp 1 _ rfl);obtain⟨x2,e2,p2⟩:=mI (hp 2 _ rfl);obtain⟨x3,e3,p3⟩:=pX (hp 3 _ rfl);obtain⟨x4,e4,p4⟩:=pX (hp 4 _ rfl);obtain⟨x5,e5,p5⟩:=mI (hp 5 _ rfl);obtain⟨x6,e6,p6⟩:=Cd (hp 6 _ rfl);obtain⟨x7,e7,p7⟩:=mI (hp 7 _ rfl);obtain⟨x8,e8,p8⟩:=mI (hp 8 _ rfl);refine⟨⟨x0,x1,x2,x3,x4,x5,x6,x7,x8⟩,?_,⟨p0,p1,p3,p4⟩⟩;show parts 0++(parts 1++(parts 2++(parts 3++(parts 4++(parts 5++(parts 6++(parts 7++(parts 8++[]))))))))=_;rw[e0,e1,e2,e3,e4,e5,e6,e7,e8];rfl
theorem Wo{cs:List AV}(h:TyV Tryz.prog 38 cs):∃ l:List Sp,cs=[.sl 9 (l.map spL) false]∧l.length≤9223372036854775807∧∀ x∈l,Sp.ok x:=
 sY (f:=spL) (p:=Sp.ok) Tryz.underlying38 (by kernel_rfl) (λ row hr=>UD hr) h
theorem Xn{cs:List AV}(h:TyV Tryz.prog 127 cs):∃ x:Ft,cs=ftL x∧x.ok:=by
 have hu:=Tryz.underlying127
 cases h with
 |bool h=>rw[hu]at h;cases h
 |int h=>rw[hu]at h;cases h
 |string h=>rw[hu]at h;cases h
 |slice h=>rw[hu]at h;cases h
 |array h=>rw[hu]at h;cases h
 |struct h parts hp=>
  rw[hu]at h;injection h with h;injection h with h;subst h;obtain⟨x0,e0,p0⟩:=pX (hp 0 _ rfl);obtain⟨x1,e1,p1⟩:=pX (hp 1 _ rfl);refine⟨⟨x0,x1⟩,?_,⟨p0,p1⟩⟩;show parts 0++(parts 1++[])=_;rw[e0,e1];rfl
theorem Wp{cs:List AV}(h:TyV Tryz.prog 28 cs):∃ l:List Ft,cs=[.sl 2 (l.map ftL) false]∧l.length≤9223372036854775807∧∀ x∈l,Ft.ok x:=
 sY (f:=ftL) (p:=Ft.ok) Tryz.underlying28 (by kernel_rfl) (λ row hr=>Xn hr) h
theorem Xo{cs:List AV}(h:TyV Tryz.prog 99 cs):∃ x:Pt,cs=ptL x∧x.ok:=by
 have hu:=Tryz.underlying99
 cases h with
 |bool h=>rw[hu]at h;cases h
 |int h=>rw[hu]at h;cases h
 |string h=>rw[hu]at h;cases h
 |slice h=>rw[hu]at h;cases h
 |array h=>rw[hu]at h;cases h
 |struct h parts hp=>
  rw[hu]at h;injection h with h;injection h with h;subst h;obtain⟨x0,e0,p0⟩:=pX (hp 0 _ rfl);obtain⟨x1,e1,p1⟩:=LP (hp 1 _ rfl);refine⟨⟨x0,x1⟩,?_,⟨p0⟩⟩;show parts 0++(parts 1++[])=_;rw[e0,e1];rfl
theorem Wq{cs:List AV}(h:TyV Tryz.prog 30 cs):∃ l:List Pt,cs=[.sl 2 (l.map ptL) false]∧l.length≤9223372036854775807∧∀ x∈l,Pt.ok x:=
 sY (f:=ptL) (p:=Pt.ok) Tryz.underlying30 (by kernel_rfl) (λ row hr=>Xo hr) h
theorem Xp{cs:List AV}(h:TyV Tryz.prog 88 cs):∃ x:Gs,cs=gsL x∧x.ok:=by
 have hu:=Tryz.underlying88
 cases h with
 |bool h=>rw[hu]at h;cases h
 |int h=>rw[hu]at h;cases h
 |string h=>rw[hu]at h;cases h
 |slice h=>rw[hu]at h;cases h
 |array h=>rw[hu]at h;cases h
 |struct h parts hp=>
  rw[hu]at h;injection h with h;injection h with h;subst h;obtain⟨x0,e0,p0⟩:=pX (hp 0 _ rfl);obtain⟨x1,e1,p1⟩:=pX (hp 1 _ rfl);refine⟨⟨x0,x1⟩,?_,⟨p0,p1⟩⟩;show parts 0++(parts 1++[])=_;rw[e0,e1];rfl
theorem Wr{cs:List AV}(h:TyV Tryz.prog 35 cs):∃ l:List Gs,cs=[.sl 2 (l.map gsL) false]∧l.length≤9223372036854775807∧∀ x∈l,Gs.ok x:=
 sY (f:=gsL) (p:=Gs.ok) Tryz.underlying35 (by kernel_rfl) (λ row hr=>Xp hr) h
theorem UE(row:List AV)(h:TyV Tryz.prog 26 row):∃ n:Nat,row=eJ n∧n≤4294967295:=pX h
theorem UF(row:List AV)(h:TyV Tryz.prog 3 row):∃ n:Int,row=fD n∧True:=mI h
abbrev siC(i:SI):List AV:=[.v (.int .i64 i.op),.v (.int .i64 i.rd),.v (.int .i64 i.rs1),.v (.int .i64 i.rs2),.v (.int .u32 (i.imm:Int))]
theorem SW{cs:List AV}(h:TyV Tryz.prog 3 cs):∃ n:Int,cs=[.v (.int .i64 n)]∧n≤9223372036854775807:=by
 have hu:=Tryz.underlying3
 cases h with
 |int h n hn=>
  rw[hu]at h;injection h with h;injection h with h;subst h;simp only[Lit.wf,IntKind.min,IntKind.max,IntKind.signed,IntKind.bits,aK,bC]at hn;simp at hn
  exact⟨n,rfl,by omega⟩
 |bool h=>rw[hu]at h;cases h
 |string h=>rw[hu]at h;cases h
 |slice h=>rw[hu]at h;cases h
 |struct h=>rw[hu]at h;cases h
 |array h=>rw[hu]at h;cases h
theorem Hg{cs:List AV}(h:TyV Tryz.prog 23 cs):∃ l:List Nat,cs=[.sl 1 (l.map eJ) false]∧l.length≤9223372036854775807∧∀ x∈l,(λ n:Nat=>n≤4294967295) x:=
 sY (f:=eJ) (p:=(λ n:Nat=>n≤4294967295)) Tryz.underlying23 (by kernel_rfl) (λ row hr=>UE _ hr) h
theorem UG{cs:List AV}(h:TyV Tryz.prog 22 cs):∃ l:List Int,cs=[.sl 1 (l.map fD) false]∧l.length≤9223372036854775807∧∀ x∈l,(λ (_:Int)=>True) x:=
 sY (f:=fD) (p:=(λ (_:Int)=>True)) Tryz.underlying22 (by kernel_rfl) (λ row hr=>UF _ hr) h
theorem UH{cs:List AV}(h:TyV Tryz.prog 93 cs):∃ x:SI,cs=siC x∧x.imm≤4294967295:=by
 have hu:=Tryz.underlying93
 cases h with
 |bool h=>rw[hu]at h;cases h
 |int h=>rw[hu]at h;cases h
 |string h=>rw[hu]at h;cases h
 |slice h=>rw[hu]at h;cases h
 |array h=>rw[hu]at h;cases h
 |struct h parts hp=>
  rw[hu]at h;injection h with h;injection h with h;subst h;obtain⟨x0,e0,p0⟩:=mI (hp 0 _ rfl);obtain⟨x1,e1,p1⟩:=mI (hp 1 _ rfl);obtain⟨x2,e2,p2⟩:=mI (hp 2 _ rfl);obtain⟨x3,e3,p3⟩:=mI (hp 3 _ rfl);obtain⟨x4,e4,p4⟩:=pX (hp 4 _ rfl);refine⟨⟨x0,x1,x2,x3,x4⟩,?_,p4⟩;show parts 0++(parts 1++(parts 2++(parts 3++(parts 4++[]))))=_;rw[e0,e1,e2,e3,e4];rfl
theorem Ws{cs:List AV}(h:TyV Tryz.prog 95 cs):∃ x:Ent,cs=enL x∧x.ok:=by
 have hu:=Tryz.underlying95
 cases h with
 |bool h=>rw[hu]at h;cases h
 |int h=>rw[hu]at h;cases h
 |string h=>rw[hu]at h;cases h
 |slice h=>rw[hu]at h;cases h
 |array h=>rw[hu]at h;cases h
 |struct h parts hp=>
  rw[hu]at h;injection h with h;injection h with h;subst h;obtain⟨x0,e0,p0⟩:=mI (hp 0 _ rfl);obtain⟨x1,e1,p1⟩:=pX (hp 1 _ rfl);obtain⟨x2,e2,p2⟩:=UH (hp 2 _ rfl);obtain⟨x3,e3,p3⟩:=pX (hp 3 _ rfl);obtain⟨x4,e4,p4⟩:=mI (hp 4 _ rfl);obtain⟨x5,e5,p5⟩:=mI (hp 5 _ rfl);obtain⟨x6,e6,p6⟩:=pX (hp 6 _ rfl);obtain⟨x7,e7,p7⟩:=pX (hp 7 _ rfl);obtain⟨x8,e8,p8⟩:=pX (hp 8 _ rfl);obtain⟨x9,e9,p9⟩:=mI (hp 9 _ rfl);obtain⟨x10,e10,p10⟩:=mI (hp 10 _ rfl);obtain⟨x11,e11,p11⟩:=Cd (hp 11 _ rfl);obtain⟨x12,e12,p12⟩:=Cd (hp 12 _ rfl);refine⟨⟨x0,x1,x2,x3,x4,x5,x6,x7,x8,x9,x10,x11,x12⟩,?_,⟨p1,p2,p3,p6,p7,p8⟩⟩;show parts 0++(parts 1++(parts 2++(parts 3++(parts 4++(parts 5++(parts 6++(parts 7++(parts 8++(parts 9++(parts 10++(parts 11++(parts 12++[]))))))))))))=_;rw[e0,e1,e2,e3,e4,e5,e6,e7,e8,e9,e10,e11,e12];rfl
theorem Wt{cs:List AV}(h:TyV Tryz.prog 29 cs):∃ l:List Ent,cs=[.sl 17 (l.map enL) false]∧l.length≤9223372036854775807∧∀ x∈l,Ent.ok x:=
 sY (f:=enL) (p:=Ent.ok) Tryz.underlying29 (by kernel_rfl) (λ row hr=>Ws hr) h
theorem PR{cs:List AV}(h:TyV Tryz.prog 25 cs):∃ x:Cf,cs=cfL x false false∧x.okW:=by
 have hu:=Tryz.underlying25
 cases h with
 |bool h=>rw[hu]at h;cases h
 |int h=>rw[hu]at h;cases h
 |string h=>rw[hu]at h;cases h
 |slice h=>rw[hu]at h;cases h
 |array h=>rw[hu]at h;cases h
 |struct h parts hp=>
  rw[hu]at h;injection h with h;injection h with h;subst h;obtain⟨x0,e0,p0⟩:=mI (hp 0 _ rfl);obtain⟨x1,e1,p1⟩:=mI (hp 1 _ rfl);obtain⟨x2,e2,p2⟩:=mI (hp 2 _ rfl);obtain⟨x3,e3,p3⟩:=mI (hp 3 _ rfl);obtain⟨x4,e4,p4⟩:=mI (hp 4 _ rfl);obtain⟨x5,e5,p5⟩:=mI (hp 5 _ rfl);obtain⟨x6,e6,p6⟩:=mI (hp 6 _ rfl);obtain⟨x7,e7,p7⟩:=mI (hp 7 _ rfl);obtain⟨x8,e8,p8⟩:=UG (hp 8 _ rfl);obtain⟨x9,e9,p9⟩:=Cd (hp 9 _ rfl);obtain⟨x10,e10,p10⟩:=Hg (hp 10 _ rfl);refine⟨⟨x0,x1,x2,x3,x4,x5,x6,x7,x8,x9,x10⟩,?_,⟨p8.1,p10.1,p10.2⟩⟩;show parts 0++(parts 1++(parts 2++(parts 3++(parts 4++(parts 5++(parts 6++(parts 7++(parts 8++(parts 9++(parts 10++[]))))))))))=_;rw[e0,e1,e2,e3,e4,e5,e6,e7,e8,e9,e10];rfl
theorem RY{cs:List AV}(h:TyV Tryz.prog 37 cs):∃ x:Gu,cs=guL x∧x.ok:=by
 have hu:=Tryz.underlying37
 cases h with
 |bool h=>rw[hu]at h;cases h
 |int h=>rw[hu]at h;cases h
 |string h=>rw[hu]at h;cases h
 |slice h=>rw[hu]at h;cases h
 |array h=>rw[hu]at h;cases h
 |struct h parts hp=>
  rw[hu]at h;injection h with h;injection h with h;subst h;obtain⟨x0,e0,p0⟩:=Wr (hp 0 _ rfl);obtain⟨x1,e1,p1⟩:=pX (hp 1 _ rfl);obtain⟨x2,e2,p2⟩:=Hg (hp 2 _ rfl);refine⟨⟨x0,x1,x2⟩,?_,⟨p0.1,p2.1,p1,p0.2,p2.2⟩⟩;show parts 0++(parts 1++(parts 2++[]))=_;rw[e0,e1,e2];rfl
structure Co.okA(c:Co):Prop where
 conf:c.conf.okW
 prog:c.prog.length≤9223372036854775807
 progo:∀ x∈c.prog,x≤4294967295
 r:∀ k,c.r k≤4294967295
 fetch:c.fetch≤4294967295
 fet:c.fetched.length≤9223372036854775807
 feto:∀ x∈c.fetched,x.ok
 rob:c.rob.length≤9223372036854775807
 robo:∀ x∈c.rob,x.ok
 sto:c.stores.length≤9223372036854775807
 stoo:∀ x∈c.stores,x.ok
 data:c.data.ok
 words:c.words.ok
 bus:c.bus.length≤9223372036854775807
 buso:∀ x∈c.bus,x.ok
 asked:c.asked≤9223372036854775807
 guessed:c.guessed≤9223372036854775807
 mem:c.mem.size≤9223372036854775807
 guess:c.guess.ok
 ret:c.retired.length≤9223372036854775807
 reto:∀ x∈c.retired,x.ok
theorem UI{cs:List AV}(h:TyV Tryz.prog 40 cs):∃ x:Co,cs=coL x∧x.okA:=by
 have hu:=Tryz.underlying40
 cases h with
 |bool h=>rw[hu]at h;cases h
 |int h=>rw[hu]at h;cases h
 |string h=>rw[hu]at h;cases h
 |slice h=>rw[hu]at h;cases h
 |array h=>rw[hu]at h;cases h
 |struct h parts hp=>
  rw[hu]at h;injection h with h;injection h with h;subst h;obtain⟨x0,e0,p0⟩:=PR (hp 0 _ rfl);obtain⟨x1,e1,p1⟩:=Hg (hp 1 _ rfl);obtain⟨x2,e2,p2⟩:=mI (hp 2 _ rfl);obtain⟨x3,e3,p3⟩:=UA (hp 3 _ rfl);obtain⟨x4,e4,p4⟩:=pX (hp 4 _ rfl);obtain⟨x5,e5,p5⟩:=Cd (hp 5 _ rfl);obtain⟨x6,e6,p6⟩:=Wp (hp 6 _ rfl);obtain⟨x7,e7,p7⟩:=Wt (hp 7 _ rfl);obtain⟨x8,e8,p8⟩:=mI (hp 8 _ rfl);obtain⟨x9,e9,p9⟩:=Wq (hp 9 _ rfl);obtain⟨x10,e10,p10⟩:=LQ (hp 10 _ rfl);obtain⟨x11,e11,p11⟩:=LQ (hp 11 _ rfl);obtain⟨x12,e12,p12⟩:=Wn (hp 12 _ rfl);obtain⟨x13,e13,p13⟩:=SW (hp 13 _ rfl);obtain⟨x14,e14,p14⟩:=SW (hp 14 _ rfl);obtain⟨x15,e15,p15⟩:=LP (hp 15 _ rfl);obtain⟨x16,e16,p16⟩:=RY (hp 16 _ rfl);obtain⟨x17,e17,p17⟩:=mI (hp 17 _ rfl);obtain⟨x18,e18,p18⟩:=Wo (hp 18 _ rfl);refine⟨⟨x0,x1,x2,x3,x4,x5,x6,x7,x8,x9,x10,x11,x12,x13,x14,x15,x16,x17,x18⟩,?_,⟨p0,p1.1,p1.2,p3,p4,p6.1,p6.2,p7.1,p7.2,p9.1,p9.2,p10,p11,p12.1,p12.2,p13,p14,aL p15 (by decide),p16,p18.1,p18.2⟩⟩;show parts 0++(parts 1++(parts 2++(parts 3++(parts 4++(parts 5++(parts 6++(parts 7++(parts 8++(parts 9++(parts 10++(parts 11++(parts 12++(parts 13++(parts 14++(parts 15++(parts 16++(parts 17++(parts 18++[]))))))))))))))))))=_;rw[e0,e1,e2,e3,e4,e5,e6,e7,e8,e9,e10,e11,e12,e13,e14,e15,e16,e17,e18];rfl
theorem PS{H:Type}{enc:TypeId×Value→H}{w:World}{base:Nat}{spare:Nat→Bool}{held:Bool}{r:Reach}{b0:Nat}{v:Value}{d:DataW H}{p:List MemPlace}
  (hv:Value.okWide Tryz.prog w r b0 40 v) (h:DataW.Trod enc Tryz.prog w base spare held 40 v d p):
  ∃ c:Co,Rep (· <w.heap.size) w noB (.agg (coL c)) v∧c.okA:=by
 obtain⟨cs,rfl,hsz⟩:=okWide_struct Tryz.underlying40 hv;obtain⟨fuel,hf⟩:=h;obtain⟨cells,ho⟩:=sL 8 fuel _ _ _ hf (by kernel_rfl);obtain⟨c,rfl,hc⟩:=UI ho.ty;refine⟨c,.agg _ cs ?_ (λ i u hu=>ho.one u ?_) (λ i a u h1 h2=>ho.rep.2 i a u h1 ?_),hc⟩
 ·exact ho.rep.1
 ·exact Hj.2 (fZ hu)
 ·show cs.toList[i]?=some u;rw[bJ];exact h2
theorem Jb{H:Type}{enc:TypeId×Value→H}{w:World}{base:Nat}{spare:Nat→Bool}{held:Bool}{r:Reach}{b0:Nat}{v:Value}{d:DataW H}{p:List MemPlace}
  (hv:Value.okWide Tryz.prog w r b0 25 v) (h:DataW.Trod enc Tryz.prog w base spare held 25 v d p):
  ∃ c:Cf,Rep (· <w.heap.size) w noB (.agg (cfL c false false)) v∧c.okW:=by
 obtain⟨cs,rfl,hsz⟩:=okWide_struct Tryz.underlying25 hv;obtain⟨fuel,hf⟩:=h;obtain⟨cells,ho⟩:=sL 6 fuel _ _ _ hf (by kernel_rfl);obtain⟨c,rfl,hc⟩:=PR ho.ty;refine⟨c,.agg _ cs ?_ (λ i u hu=>ho.one u ?_) (λ i a u h1 h2=>ho.rep.2 i a u h1 ?_),hc⟩
 ·exact ho.rep.1
 ·exact Hj.2 (fZ hu)
 ·show cs.toList[i]?=some u;rw[bJ];exact h2
theorem Jc{H:Type}{enc:TypeId×Value→H}{w:World}{base:Nat}{spare:Nat→Bool}{held:Bool}{r:Reach}{b0:Nat}{v:Value}{d:DataW H}{p:List MemPlace}
  (hv:Value.okWide Tryz.prog w r b0 23 v) (h:DataW.Trod enc Tryz.prog w base spare held 23 v d p):
  ∃ l:List Nat,(∀ x∈l,x≤4294967295)∧l.length≤9223372036854775807∧Rep (· <w.heap.size) w noB (.sl 1 (l.map eJ) false) v:=by
 obtain⟨a0,len,cap,rfl⟩:=okWide_slice Tryz.underlying23 hv;obtain⟨fuel,hf⟩:=h;obtain⟨cs,ho⟩:=sL 3 fuel _ _ _ hf (by kernel_rfl);obtain⟨l,rfl,h1,h2⟩:=Hg ho.ty;exact⟨l,h2,h1,ho.rep.2 0 _ _ rfl rfl⟩
theorem PT{w:World}(h:Ds w):0<w.heap.size:=by
 have:=h 0 (by decide);unfold World.cell? at this
 cases hq:w.heap[0]? with
 |none=>simp[hq]at this
 |some o=>exact (CI.1 hq).1
theorem bY.law{f:FuncId}{args:List AV}{vs:List Value}{w:World}(h:bY C0 f args (.v (.bool true)))(hC:Ds w)(ha:RepL (· <w.heap.size) w noB args vs):
  Calls Tryz.prog f vs.toArray w λ e w'=>e=.returned (.bool true)∧Below w.heap.size w w':=
 (h.2 (· <w.heap.size) w vs (λ _ h=>h) (XM hC (PT hC)) ha).mono λ e w' ⟨v,h1,h2,h3⟩=>⟨by rw[h1,kW h3],h2⟩
end Go.Proofs.YtlhofpglndhfaaaGreatDoor
