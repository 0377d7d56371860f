/- CoreWild: whatever core there is, a cycle ends; one that may not be stays as it is, one that may goes on by one cycle: for every core; no conditions. -/
import Derived.Test.YtlhofpglndhfaaaGreatDoorTie
import Derived.Test.YtlhofpglndhfaaaGreatDoorCards
import Derived.Test.YtlhofpglndhfaaaGreatDoorS1
import Derived.Test.YtlhofpglndhfaaaGreatDoorS8
import Derived.Test.YtlhofpglndhfaaaGreatDoorS32
import Derived.Test.YtlhofpglndhfaaaGreatDoorS47
import Derived.Test.YtlhofpglndhfaaaGreatDoorS48
namespace Go.Proofs.YtlhofpglndhfaaaGreatDoor
set_option maxRecDepth 100000
set_option maxHeartbeats 4000000
open Go.RowKit Go.ChangeShapes Go.WideShapes Go.ChangeAt Go.Deep
theorem MO{n:Int}(h:(Lit.int .u32 n).wf=true):∃ m:Nat,n=m∧m≤4294967295:=by
 simp only[Lit.wf,IntKind.min,IntKind.max,IntKind.signed,IntKind.bits,Tc,Tk]at h;simp at h;exact⟨n.toNat,by omega,by omega⟩
theorem fI{cs:List AV}(h:TyV Tryz.prog 3 cs):∃ n:Int,cs=[.v (.int .i64 n)]∧True:=by
 have hu:=Tryz.underlying3
 cases h with
 |int h n hn=>rw[hu]at h;injection h with h;injection h with h;subst h;exact⟨n,rfl,trivial⟩
 |bool h=>rw[hu]at h;cases h
 |string h=>rw[hu]at h;cases h
 |slice h=>rw[hu]at h;cases h
 |struct h=>rw[hu]at h;cases h
 |array h=>rw[hu]at h;cases h
theorem iN{cs:List AV}(h:TyV Tryz.prog 26 cs):∃ n:Nat,cs=[.v (.int .u32 (n:Int))]∧n≤4294967295:=by
 have hu:=Tryz.underlying26
 cases h with
 |int h n hn=>
  rw[hu]at h;injection h with h;injection h with h;subst h;obtain⟨m,rfl,hm⟩:=MO hn
  exact⟨m,rfl,hm⟩
 |bool h=>rw[hu]at h;cases h
 |string h=>rw[hu]at h;cases h
 |slice h=>rw[hu]at h;cases h
 |struct h=>rw[hu]at h;cases h
 |array h=>rw[hu]at h;cases h
theorem vV{cs:List AV}(h:TyV Tryz.prog 4 cs):∃ b:Bool,cs=[.v (.bool b)]∧True:=by
 have hu:=Tryz.underlying4
 cases h with
 |bool h b=>exact⟨b,rfl,trivial⟩
 |int h=>rw[hu]at h;cases h
 |string h=>rw[hu]at h;cases h
 |slice h=>rw[hu]at h;cases h
 |struct h=>rw[hu]at h;cases h
 |array h=>rw[hu]at h;cases h
theorem GL{cs:List AV}(h:TyV Tryz.prog 9 cs):∃ b:ByteArray,cs=[.v (.string b)]∧b.size≤maxLen:=by
 have hu:=Tryz.underlying9
 cases h with
 |string h b hb=>exact⟨b,rfl,hb⟩
 |int h=>rw[hu]at h;cases h
 |bool h=>rw[hu]at h;cases h
 |slice h=>rw[hu]at h;cases h
 |struct h=>rw[hu]at h;cases h
 |array h=>rw[hu]at h;cases h
theorem KR{α:Type}{f:α→List AV}{p:α→Prop}:∀ (rows:List (List AV)),(∀ row∈rows,∃ x,row=f x∧p x)→∃ l:List α,rows=l.map f∧l.length=rows.length∧∀ x∈l,p x
 |[],_=>⟨[],rfl,rfl,λ x h=>by cases h⟩
 |row::rows,h=>by
  obtain⟨x,rfl,hx⟩:=h row (Tv);obtain⟨l,rfl,hl,hp⟩:=KR rows λ r hr=>h r (TC _ hr);exact⟨x::l,rfl,by simp,λ y hy=>by rcases al_List_mem_cons.1 hy with rfl|hy;exact hx;exact hp y hy⟩
theorem kP{α:Type}{t e:TypeId}{k:Nat}{f:α→List AV}{p:α→Prop}(hu:Tryz.prog.underlying t=some (.slice e))(hk:Tryz.prog.cellsOf e=k)(hrow:∀ row,TyV Tryz.prog e row→∃ x,row=f x∧p x){cs:List AV}(h:TyV Tryz.prog t cs):
  ∃ l:List α,cs=[.sl k (l.map f) false]∧l.length≤9223372036854775807∧∀ x∈l,p x:=by
 cases h with
 |slice h rows hl hr hrs=>
  rw[hu]at h;injection h with h;injection h with h;subst h;subst hk;obtain⟨l,rfl,h1,h2⟩:=KR rows λ row hrow'=>hrow row (hr row hrow')
  exact⟨l,rfl,Tb (Nat.le_of_eq h1) (Tb hl (by decide)),h2⟩
 |int h=>rw[hu]at h;cases h
 |bool h=>rw[hu]at h;cases h
 |string h=>rw[hu]at h;cases h
 |struct h=>rw[hu]at h;cases h
 |array h=>rw[hu]at h;cases h
theorem NC{α β:Type}{f g:α→List β}:∀ (l:List α),(∀ x∈l,f x=g x)→l.flatMap f=l.flatMap g
 |[],_=>rfl
 |x::l,h=>by rw[Up,Up,h x (Tv),NC l (λ y hy=>h y (TC _ hy))]
abbrev rgL(r:Nat→Nat):List AV:=[.v (.int .u32 (r 0:Int)),.v (.int .u32 (r 1:Int)),.v (.int .u32 (r 2:Int)),.v (.int .u32 (r 3:Int)),.v (.int .u32 (r 4:Int)),.v (.int .u32 (r 5:Int)),.v (.int .u32 (r 6:Int)),.v (.int .u32 (r 7:Int)),.v (.int .u32 (r 8:Int)),.v (.int .u32 (r 9:Int)),.v (.int .u32 (r 10:Int)),.v (.int .u32 (r 11:Int)),.v (.int .u32 (r 12:Int)),.v (.int .u32 (r 13:Int)),.v (.int .u32 (r 14:Int)),.v (.int .u32 (r 15:Int)),.v (.int .u32 (r 16:Int)),.v (.int .u32 (r 17:Int)),.v (.int .u32 (r 18:Int)),.v (.int .u32 (r 19:Int)),.v (.int .u32 (r 20:Int)),.v (.int .u32 (r 21:Int)),.v (.int .u32 (r 22:Int)),.v (.int .u32 (r 23:Int)),.v (.int .u32 (r 24:Int)),.v (.int .u32 (r 25:Int)),.v (.int .u32 (r 26:Int)),.v (.int .u32 (r 27:Int)),.v (.int .u32 (r 28:Int)),.v (.int .u32 (r 29:Int)),.v (.int .u32 (r 30:Int)),.v (.int .u32 (r 31:Int))]
theorem Ph{cs:List AV}(h:TyV Tryz.prog 27 cs):∃ r:Nat→Nat,cs=rgL r∧∀ k,r k≤4294967295:=by
 have hu:=Tryz.underlying27
 cases h with
 |bool h=>rw[hu]at h;cases h
 |int h=>rw[hu]at h;cases h
 |string h=>rw[hu]at h;cases h
 |slice h=>rw[hu]at h;cases h
 |struct h=>rw[hu]at h;cases h
 | @array _ e n h parts hp=>
  rw[hu]at h;injection h with h;injection h with h1 h2;subst h1;subst h2;have hj:∀ j,∃ m:Nat,(j<32→parts j=[.v (.int .u32 (m:Int))])∧m≤4294967295:=λ j=>by
   by_cases hlt:j<32
   ·obtain⟨m,h1,h2⟩:=iN (hp j hlt);exact⟨m,λ _=>h1,h2⟩
   ·exact⟨0,λ h=>absurd h hlt,by omega⟩
  obtain⟨r,hr⟩:∃ r:Nat→Nat,∀ j,(j<32→parts j=[.v (.int .u32 (r j:Int))])∧r j≤4294967295:=⟨λ j=>(hj j).choose,λ j=>(hj j).choose_spec⟩;refine⟨r,?_,λ j=>(hr j).2⟩;exact (NC (List.range 32) (λ j hj=>(hr j).1 (VH.1 hj))).trans rfl
theorem QU{cs:List AV}(h:TyV Tryz.prog 80 cs):∃ x:Wy,cs=wyL x∧x.ok:=by
 have hu:=Tryz.underlying80
 cases h with
 |bool h=>rw[hu]at h;cases h
 |int h=>rw[hu]at h;cases h
 |string h=>rw[hu]at h;cases h
 |slice h=>rw[hu]at h;cases h
 |array h=>rw[hu]at h;cases h
 |struct h parts hp=>
  rw[hu]at h;injection h with h;injection h with h;subst h;obtain⟨x0,e0,p0⟩:=iN (hp 0 _ rfl);obtain⟨x1,e1,p1⟩:=vV (hp 1 _ rfl);obtain⟨x2,e2,p2⟩:=GL (hp 2 _ rfl);refine⟨⟨x0,x1,x2⟩,?_,⟨p0⟩⟩;show parts 0++(parts 1++(parts 2++[]))=_;rw[e0,e1,e2];rfl
theorem QV{cs:List AV}(h:TyV Tryz.prog 78 cs):∃ l:List Wy,cs=[.sl 3 (l.map wyL) false]∧l.length≤9223372036854775807∧∀ x∈l,Wy.ok x:=
 kP (f:=wyL) (p:=Wy.ok) Tryz.underlying78 (by kernel_rfl) (λ row hr=>QU hr) h
theorem Pi(row:List AV)(h:TyV Tryz.prog 78 row):∃ s:List Wy,row=aR s∧(s.length≤9223372036854775807∧∀ x∈s,x.ok):=QV h
theorem Pj{cs:List AV}(h:TyV Tryz.prog 31 cs):∃ l:List (List Wy),cs=[.sl 1 (l.map aR) false]∧l.length≤9223372036854775807∧∀ x∈l,(λ s:List Wy=>s.length≤9223372036854775807∧∀ x∈s,x.ok) x:=
 kP (f:=aR) (p:=(λ s:List Wy=>s.length≤9223372036854775807∧∀ x∈s,x.ok)) Tryz.underlying31 (by kernel_rfl) (λ row hr=>Pi _ hr) h
theorem GM{cs:List AV}(h:TyV Tryz.prog 33 cs):∃ x:Ca,cs=caL x false∧x.ok:=by
 have hu:=Tryz.underlying33
 cases h with
 |bool h=>rw[hu]at h;cases h
 |int h=>rw[hu]at h;cases h
 |string h=>rw[hu]at h;cases h
 |slice h=>rw[hu]at h;cases h
 |array h=>rw[hu]at h;cases h
 |struct h parts hp=>
  rw[hu]at h;injection h with h;injection h with h;subst h;obtain⟨x0,e0,p0⟩:=fI (hp 0 _ rfl);obtain⟨x1,e1,p1⟩:=Pj (hp 1 _ rfl);refine⟨⟨x0,x1⟩,?_,⟨p1.1,p1.2⟩⟩;show parts 0++(parts 1++[])=_;rw[e0,e1];rfl
theorem QW{cs:List AV}(h:TyV Tryz.prog 69 cs):∃ x:Req,cs=rqL x∧x.ok:=by
 have hu:=Tryz.underlying69
 cases h with
 |bool h=>rw[hu]at h;cases h
 |int h=>rw[hu]at h;cases h
 |string h=>rw[hu]at h;cases h
 |slice h=>rw[hu]at h;cases h
 |array h=>rw[hu]at h;cases h
 |struct h parts hp=>
  rw[hu]at h;injection h with h;injection h with h;subst h;obtain⟨x0,e0,p0⟩:=fI (hp 0 _ rfl);obtain⟨x1,e1,p1⟩:=iN (hp 1 _ rfl);obtain⟨x2,e2,p2⟩:=fI (hp 2 _ rfl);obtain⟨x3,e3,p3⟩:=GL (hp 3 _ rfl);refine⟨⟨x0,x1,x2,x3⟩,?_,⟨p1⟩⟩;show parts 0++(parts 1++(parts 2++(parts 3++[])))=_;rw[e0,e1,e2,e3];rfl
theorem QX{cs:List AV}(h:TyV Tryz.prog 34 cs):∃ l:List Req,cs=[.sl 4 (l.map rqL) false]∧l.length≤9223372036854775807∧∀ x∈l,Req.ok x:=
 kP (f:=rqL) (p:=Req.ok) Tryz.underlying34 (by kernel_rfl) (λ row hr=>QW hr) h
theorem Pk{cs:List AV}(h:TyV Tryz.prog 57 cs):∃ x:Sp,cs=spL x∧x.ok:=by
 have hu:=Tryz.underlying57
 cases h with
 |bool h=>rw[hu]at h;cases h
 |int h=>rw[hu]at h;cases h
 |string h=>rw[hu]at h;cases h
 |slice h=>rw[hu]at h;cases h
 |array h=>rw[hu]at h;cases h
 |struct h parts hp=>
  rw[hu]at h;injection h with h;injection h with h;subst h;obtain⟨x0,e0,p0⟩:=iN (hp 0 _ rfl);obtain⟨x1,e1,p1⟩:=iN (hp 1 _ rfl);obtain⟨x2,e2,p2⟩:=fI (hp 2 _ rfl);obtain⟨x3,e3,p3⟩:=iN (hp 3 _ rfl);obtain⟨x4,e4,p4⟩:=iN (hp 4 _ rfl);obtain⟨x5,e5,p5⟩:=fI (hp 5 _ rfl);obtain⟨x6,e6,p6⟩:=vV (hp 6 _ rfl);obtain⟨x7,e7,p7⟩:=fI (hp 7 _ rfl);obtain⟨x8,e8,p8⟩:=fI (hp 8 _ rfl);refine⟨⟨x0,x1,x2,x3,x4,x5,x6,x7,x8⟩,?_,⟨p0,p1,p3,p4⟩⟩;show parts 0++(parts 1++(parts 2++(parts 3++(parts 4++(parts 5++(parts 6++(parts 7++(parts 8++[]))))))))=_;rw[e0,e1,e2,e3,e4,e5,e6,e7,e8];rfl
theorem QY{cs:List AV}(h:TyV Tryz.prog 38 cs):∃ l:List Sp,cs=[.sl 9 (l.map spL) false]∧l.length≤9223372036854775807∧∀ x∈l,Sp.ok x:=
 kP (f:=spL) (p:=Sp.ok) Tryz.underlying38 (by kernel_rfl) (λ row hr=>Pk hr) h
theorem RQ{cs:List AV}(h:TyV Tryz.prog 127 cs):∃ x:Ft,cs=ftL x∧x.ok:=by
 have hu:=Tryz.underlying127
 cases h with
 |bool h=>rw[hu]at h;cases h
 |int h=>rw[hu]at h;cases h
 |string h=>rw[hu]at h;cases h
 |slice h=>rw[hu]at h;cases h
 |array h=>rw[hu]at h;cases h
 |struct h parts hp=>
  rw[hu]at h;injection h with h;injection h with h;subst h;obtain⟨x0,e0,p0⟩:=iN (hp 0 _ rfl);obtain⟨x1,e1,p1⟩:=iN (hp 1 _ rfl);refine⟨⟨x0,x1⟩,?_,⟨p0,p1⟩⟩;show parts 0++(parts 1++[])=_;rw[e0,e1];rfl
theorem QZ{cs:List AV}(h:TyV Tryz.prog 28 cs):∃ l:List Ft,cs=[.sl 2 (l.map ftL) false]∧l.length≤9223372036854775807∧∀ x∈l,Ft.ok x:=
 kP (f:=ftL) (p:=Ft.ok) Tryz.underlying28 (by kernel_rfl) (λ row hr=>RQ hr) h
theorem RR{cs:List AV}(h:TyV Tryz.prog 99 cs):∃ x:Pt,cs=ptL x∧x.ok:=by
 have hu:=Tryz.underlying99
 cases h with
 |bool h=>rw[hu]at h;cases h
 |int h=>rw[hu]at h;cases h
 |string h=>rw[hu]at h;cases h
 |slice h=>rw[hu]at h;cases h
 |array h=>rw[hu]at h;cases h
 |struct h parts hp=>
  rw[hu]at h;injection h with h;injection h with h;subst h;obtain⟨x0,e0,p0⟩:=iN (hp 0 _ rfl);obtain⟨x1,e1,p1⟩:=GL (hp 1 _ rfl);refine⟨⟨x0,x1⟩,?_,⟨p0⟩⟩;show parts 0++(parts 1++[])=_;rw[e0,e1];rfl
theorem Rb{cs:List AV}(h:TyV Tryz.prog 30 cs):∃ l:List Pt,cs=[.sl 2 (l.map ptL) false]∧l.length≤9223372036854775807∧∀ x∈l,Pt.ok x:=
 kP (f:=ptL) (p:=Pt.ok) Tryz.underlying30 (by kernel_rfl) (λ row hr=>RR hr) h
theorem RS{cs:List AV}(h:TyV Tryz.prog 88 cs):∃ x:Gs,cs=gsL x∧x.ok:=by
 have hu:=Tryz.underlying88
 cases h with
 |bool h=>rw[hu]at h;cases h
 |int h=>rw[hu]at h;cases h
 |string h=>rw[hu]at h;cases h
 |slice h=>rw[hu]at h;cases h
 |array h=>rw[hu]at h;cases h
 |struct h parts hp=>
  rw[hu]at h;injection h with h;injection h with h;subst h;obtain⟨x0,e0,p0⟩:=iN (hp 0 _ rfl);obtain⟨x1,e1,p1⟩:=iN (hp 1 _ rfl);refine⟨⟨x0,x1⟩,?_,⟨p0,p1⟩⟩;show parts 0++(parts 1++[])=_;rw[e0,e1];rfl
theorem Rd{cs:List AV}(h:TyV Tryz.prog 35 cs):∃ l:List Gs,cs=[.sl 2 (l.map gsL) false]∧l.length≤9223372036854775807∧∀ x∈l,Gs.ok x:=
 kP (f:=gsL) (p:=Gs.ok) Tryz.underlying35 (by kernel_rfl) (λ row hr=>RS hr) h
theorem Pl(row:List AV)(h:TyV Tryz.prog 26 row):∃ n:Nat,row=cN n∧n≤4294967295:=iN h
theorem Pm(row:List AV)(h:TyV Tryz.prog 3 row):∃ n:Int,row=dD n∧True:=fI h
abbrev siC(i:SI):List AV:=[.v (.int .i64 i.op),.v (.int .i64 i.rd),.v (.int .i64 i.rs1),.v (.int .i64 i.rs2),.v (.int .u32 (i.imm:Int))]
theorem ND{cs:List AV}(h:TyV Tryz.prog 3 cs):∃ n:Int,cs=[.v (.int .i64 n)]∧n≤9223372036854775807:=by
 have hu:=Tryz.underlying3
 cases h with
 |int h n hn=>
  rw[hu]at h;injection h with h;injection h with h;subst h;simp only[Lit.wf,IntKind.min,IntKind.max,IntKind.signed,IntKind.bits,Tc,Tk]at hn;simp at hn
  exact⟨n,rfl,by omega⟩
 |bool h=>rw[hu]at h;cases h
 |string h=>rw[hu]at h;cases h
 |slice h=>rw[hu]at h;cases h
 |struct h=>rw[hu]at h;cases h
 |array h=>rw[hu]at h;cases h
theorem Fs{cs:List AV}(h:TyV Tryz.prog 23 cs):∃ l:List Nat,cs=[.sl 1 (l.map cN) false]∧l.length≤9223372036854775807∧∀ x∈l,(λ n:Nat=>n≤4294967295) x:=
 kP (f:=cN) (p:=(λ n:Nat=>n≤4294967295)) Tryz.underlying23 (by kernel_rfl) (λ row hr=>Pl _ hr) h
theorem Pn{cs:List AV}(h:TyV Tryz.prog 22 cs):∃ l:List Int,cs=[.sl 1 (l.map dD) false]∧l.length≤9223372036854775807∧∀ x∈l,(λ (_:Int)=>True) x:=
 kP (f:=dD) (p:=(λ (_:Int)=>True)) Tryz.underlying22 (by kernel_rfl) (λ row hr=>Pm _ hr) h
theorem Po{cs:List AV}(h:TyV Tryz.prog 93 cs):∃ x:SI,cs=siC x∧x.imm≤4294967295:=by
 have hu:=Tryz.underlying93
 cases h with
 |bool h=>rw[hu]at h;cases h
 |int h=>rw[hu]at h;cases h
 |string h=>rw[hu]at h;cases h
 |slice h=>rw[hu]at h;cases h
 |array h=>rw[hu]at h;cases h
 |struct h parts hp=>
  rw[hu]at h;injection h with h;injection h with h;subst h;obtain⟨x0,e0,p0⟩:=fI (hp 0 _ rfl);obtain⟨x1,e1,p1⟩:=fI (hp 1 _ rfl);obtain⟨x2,e2,p2⟩:=fI (hp 2 _ rfl);obtain⟨x3,e3,p3⟩:=fI (hp 3 _ rfl);obtain⟨x4,e4,p4⟩:=iN (hp 4 _ rfl);refine⟨⟨x0,x1,x2,x3,x4⟩,?_,p4⟩;show parts 0++(parts 1++(parts 2++(parts 3++(parts 4++[]))))=_;rw[e0,e1,e2,e3,e4];rfl
theorem Re{cs:List AV}(h:TyV Tryz.prog 95 cs):∃ x:Ent,cs=enL x∧x.ok:=by
 have hu:=Tryz.underlying95
 cases h with
 |bool h=>rw[hu]at h;cases h
 |int h=>rw[hu]at h;cases h
 |string h=>rw[hu]at h;cases h
 |slice h=>rw[hu]at h;cases h
 |array h=>rw[hu]at h;cases h
 |struct h parts hp=>
  rw[hu]at h;injection h with h;injection h with h;subst h;obtain⟨x0,e0,p0⟩:=fI (hp 0 _ rfl);obtain⟨x1,e1,p1⟩:=iN (hp 1 _ rfl);obtain⟨x2,e2,p2⟩:=Po (hp 2 _ rfl);obtain⟨x3,e3,p3⟩:=iN (hp 3 _ rfl);obtain⟨x4,e4,p4⟩:=fI (hp 4 _ rfl);obtain⟨x5,e5,p5⟩:=fI (hp 5 _ rfl);obtain⟨x6,e6,p6⟩:=iN (hp 6 _ rfl);obtain⟨x7,e7,p7⟩:=iN (hp 7 _ rfl);obtain⟨x8,e8,p8⟩:=iN (hp 8 _ rfl);obtain⟨x9,e9,p9⟩:=fI (hp 9 _ rfl);obtain⟨x10,e10,p10⟩:=fI (hp 10 _ rfl);obtain⟨x11,e11,p11⟩:=vV (hp 11 _ rfl);obtain⟨x12,e12,p12⟩:=vV (hp 12 _ rfl);refine⟨⟨x0,x1,x2,x3,x4,x5,x6,x7,x8,x9,x10,x11,x12⟩,?_,⟨p1,p2,p3,p6,p7,p8⟩⟩;show parts 0++(parts 1++(parts 2++(parts 3++(parts 4++(parts 5++(parts 6++(parts 7++(parts 8++(parts 9++(parts 10++(parts 11++(parts 12++[]))))))))))))=_;rw[e0,e1,e2,e3,e4,e5,e6,e7,e8,e9,e10,e11,e12];rfl
theorem Rf{cs:List AV}(h:TyV Tryz.prog 29 cs):∃ l:List Ent,cs=[.sl 17 (l.map enL) false]∧l.length≤9223372036854775807∧∀ x∈l,Ent.ok x:=
 kP (f:=enL) (p:=Ent.ok) Tryz.underlying29 (by kernel_rfl) (λ row hr=>Re hr) h
theorem Pp{cs:List AV}(h:TyV Tryz.prog 25 cs):∃ x:Cf,cs=cfL x false false∧x.okW:=by
 have hu:=Tryz.underlying25
 cases h with
 |bool h=>rw[hu]at h;cases h
 |int h=>rw[hu]at h;cases h
 |string h=>rw[hu]at h;cases h
 |slice h=>rw[hu]at h;cases h
 |array h=>rw[hu]at h;cases h
 |struct h parts hp=>
  rw[hu]at h;injection h with h;injection h with h;subst h;obtain⟨x0,e0,p0⟩:=fI (hp 0 _ rfl);obtain⟨x1,e1,p1⟩:=fI (hp 1 _ rfl);obtain⟨x2,e2,p2⟩:=fI (hp 2 _ rfl);obtain⟨x3,e3,p3⟩:=fI (hp 3 _ rfl);obtain⟨x4,e4,p4⟩:=fI (hp 4 _ rfl);obtain⟨x5,e5,p5⟩:=fI (hp 5 _ rfl);obtain⟨x6,e6,p6⟩:=fI (hp 6 _ rfl);obtain⟨x7,e7,p7⟩:=fI (hp 7 _ rfl);obtain⟨x8,e8,p8⟩:=Pn (hp 8 _ rfl);obtain⟨x9,e9,p9⟩:=vV (hp 9 _ rfl);obtain⟨x10,e10,p10⟩:=Fs (hp 10 _ rfl);refine⟨⟨x0,x1,x2,x3,x4,x5,x6,x7,x8,x9,x10⟩,?_,⟨p8.1,p10.1,p10.2⟩⟩;show parts 0++(parts 1++(parts 2++(parts 3++(parts 4++(parts 5++(parts 6++(parts 7++(parts 8++(parts 9++(parts 10++[]))))))))))=_;rw[e0,e1,e2,e3,e4,e5,e6,e7,e8,e9,e10];rfl
theorem MP{cs:List AV}(h:TyV Tryz.prog 37 cs):∃ x:Gu,cs=guL x∧x.ok:=by
 have hu:=Tryz.underlying37
 cases h with
 |bool h=>rw[hu]at h;cases h
 |int h=>rw[hu]at h;cases h
 |string h=>rw[hu]at h;cases h
 |slice h=>rw[hu]at h;cases h
 |array h=>rw[hu]at h;cases h
 |struct h parts hp=>
  rw[hu]at h;injection h with h;injection h with h;subst h;obtain⟨x0,e0,p0⟩:=Rd (hp 0 _ rfl);obtain⟨x1,e1,p1⟩:=iN (hp 1 _ rfl);obtain⟨x2,e2,p2⟩:=Fs (hp 2 _ rfl);refine⟨⟨x0,x1,x2⟩,?_,⟨p0.1,p2.1,p1,p0.2,p2.2⟩⟩;show parts 0++(parts 1++(parts 2++[]))=_;rw[e0,e1,e2];rfl
structure Co.okA(c:Co):Prop where
 conf:c.conf.okW
 prog:c.prog.length≤9223372036854775807
 progo:∀ x∈c.prog,x≤4294967295
 r:∀ k,c.r k≤4294967295
 fetch:c.fetch≤4294967295
 fet:c.fetched.length≤9223372036854775807
 feto:∀ x∈c.fetched,x.ok
 rob:c.rob.length≤9223372036854775807
 robo:∀ x∈c.rob,x.ok
 sto:c.stores.length≤9223372036854775807
 stoo:∀ x∈c.stores,x.ok
 data:c.data.ok
 words:c.words.ok
 bus:c.bus.length≤9223372036854775807
 buso:∀ x∈c.bus,x.ok
 asked:c.asked≤9223372036854775807
 guessed:c.guessed≤9223372036854775807
 mem:c.mem.size≤9223372036854775807
 guess:c.guess.ok
 ret:c.retired.length≤9223372036854775807
 reto:∀ x∈c.retired,x.ok
theorem Pq{cs:List AV}(h:TyV Tryz.prog 40 cs):∃ x:Co,cs=coL x∧x.okA:=by
 have hu:=Tryz.underlying40
 cases h with
 |bool h=>rw[hu]at h;cases h
 |int h=>rw[hu]at h;cases h
 |string h=>rw[hu]at h;cases h
 |slice h=>rw[hu]at h;cases h
 |array h=>rw[hu]at h;cases h
 |struct h parts hp=>
  rw[hu]at h;injection h with h;injection h with h;subst h;obtain⟨x0,e0,p0⟩:=Pp (hp 0 _ rfl);obtain⟨x1,e1,p1⟩:=Fs (hp 1 _ rfl);obtain⟨x2,e2,p2⟩:=fI (hp 2 _ rfl);obtain⟨x3,e3,p3⟩:=Ph (hp 3 _ rfl);obtain⟨x4,e4,p4⟩:=iN (hp 4 _ rfl);obtain⟨x5,e5,p5⟩:=vV (hp 5 _ rfl);obtain⟨x6,e6,p6⟩:=QZ (hp 6 _ rfl);obtain⟨x7,e7,p7⟩:=Rf (hp 7 _ rfl);obtain⟨x8,e8,p8⟩:=fI (hp 8 _ rfl);obtain⟨x9,e9,p9⟩:=Rb (hp 9 _ rfl);obtain⟨x10,e10,p10⟩:=GM (hp 10 _ rfl);obtain⟨x11,e11,p11⟩:=GM (hp 11 _ rfl);obtain⟨x12,e12,p12⟩:=QX (hp 12 _ rfl);obtain⟨x13,e13,p13⟩:=ND (hp 13 _ rfl);obtain⟨x14,e14,p14⟩:=ND (hp 14 _ rfl);obtain⟨x15,e15,p15⟩:=GL (hp 15 _ rfl);obtain⟨x16,e16,p16⟩:=MP (hp 16 _ rfl);obtain⟨x17,e17,p17⟩:=fI (hp 17 _ rfl);obtain⟨x18,e18,p18⟩:=QY (hp 18 _ rfl);refine⟨⟨x0,x1,x2,x3,x4,x5,x6,x7,x8,x9,x10,x11,x12,x13,x14,x15,x16,x17,x18⟩,?_,⟨p0,p1.1,p1.2,p3,p4,p6.1,p6.2,p7.1,p7.2,p9.1,p9.2,p10,p11,p12.1,p12.2,p13,p14,Tb p15 (by decide),p16,p18.1,p18.2⟩⟩;show parts 0++(parts 1++(parts 2++(parts 3++(parts 4++(parts 5++(parts 6++(parts 7++(parts 8++(parts 9++(parts 10++(parts 11++(parts 12++(parts 13++(parts 14++(parts 15++(parts 16++(parts 17++(parts 18++[]))))))))))))))))))=_;rw[e0,e1,e2,e3,e4,e5,e6,e7,e8,e9,e10,e11,e12,e13,e14,e15,e16,e17,e18];rfl
theorem KS{H:Type}{enc:TypeId×Value→H}{w:World}{base:Nat}{spare:Nat→Bool}{held:Bool}{r:Reach}{b0:Nat}{v:Value}{d:DataW H}{p:List MemPlace}
  (hv:Value.okWide Tryz.prog w r b0 40 v) (h:DataW.Trod enc Tryz.prog w base spare held 40 v d p):
  ∃ c:Co,Rep (· <w.heap.size) w noB (.agg (coL c)) v∧c.okA:=by
 obtain⟨cs,rfl,hsz⟩:=okWide_struct Tryz.underlying40 hv;obtain⟨fuel,hf⟩:=h;obtain⟨cells,ho⟩:=qA 8 fuel _ _ _ hf (by kernel_rfl);obtain⟨c,rfl,hc⟩:=Pq ho.ty;refine⟨c,.agg _ cs ?_ (λ i u hu=>ho.one u ?_) (λ i a u h1 h2=>ho.rep.2 i a u h1 ?_),hc⟩
 ·exact ho.rep.1
 ·exact WG.2 (VI hu)
 ·show cs.toList[i]?=some u;rw[Ts];exact h2
theorem KT{w:World}(h:yD w):0<w.heap.size:=by
 have:=h 0 (by decide);unfold World.cell? at this
 cases hq:w.heap[0]? with
 |none=>simp[hq]at this
 |some o=>exact (Wz.1 hq).1
theorem aT.law{f:FuncId}{args:List AV}{vs:List Value}{w:World}(h:aT C0 f args (.v (.bool true)))(hC:yD w)(ha:RepL (· <w.heap.size) w noB args vs):
  Calls Tryz.prog f vs.toArray w λ e w'=>e=.returned (.bool true)∧Below w.heap.size w w':=
 (h.2 (· <w.heap.size) w vs (λ _ h=>h) (Sm hC (KT hC)) ha).mono λ e w' ⟨v,h1,h2,h3⟩=>⟨by rw[h1,eO h3],h2⟩
open Go.RowKit
theorem Co.okA.to{c:Co}(h:c.okA)(hb:c.bus.length≤30)(hr:c.retired.length≤100)(hm:c.mem.size≤600):c.ok 100:=
 ⟨h.conf,h.prog,h.progo,h.r,h.fetch,h.fet,h.feto,h.rob,h.robo,h.sto,h.stoo,h.data,h.words,by omega,h.buso,h.asked,h.guessed,by omega,h.guess,hr,h.reto⟩
theorem IK(c:Co)(hA:c.okA):aT C0 7 [.agg (coL c)] (vB true):=by
 refine dc1 (aT.intro c1Ok Tryz.func7 rfl rfl (by kernel_rfl) rfl ?_);refine aA<|aB rfl<|rAl 0 rfl rfl<|oR 1 rfl<|rE 2<|aA<|aA<|aB rfl<|oR 2 rfl<|rW (vN c.rob.length) rfl (aN enL c.rob)<|rW (vB (decide (c.rob.length>30))) rfl (okB (gtN _ _))<|oR 1 rfl<|gN rfl<|gS rfl id<|gBS (x:=vN c.fetched.length) rfl id (aN ftL c.fetched)<|gBS (x:=vB (decide (c.fetched.length>30))) rfl id (okB (gtN _ _)) ?_;refine aG rfl rfl rfl (by simp)<|oR 1 rfl<|gN rfl<|gS rfl id<|gBS (x:=vN c.stores.length) rfl id (aN ptL c.stores)<|gBS (x:=vB (decide (c.stores.length>30))) rfl id (okB (gtN _ _))<|aG rfl rfl rfl (by simp)<|oR 1 rfl<|gN rfl<|gS rfl id<|gBS (x:=vN c.bus.length) rfl id (aN rqL c.bus)<|gBS (x:=vB (decide (c.bus.length>30))) rfl id (okB (gtN _ _))<|aG rfl rfl rfl (by simp)<|oR 1 rfl<|gN rfl<|gS rfl id ?_;refine gBS (x:=vN c.retired.length) rfl id (aN spL c.retired)<|gBS (x:=vB (decide (c.retired.length>100))) rfl id (okB (gtN _ _))<|aG rfl rfl rfl (by simp)<|oR 1 rfl<|gN rfl<|gS rfl id<|gBS (x:=vN c.prog.length) rfl id (aN cN c.prog)<|gBS (x:=vB (decide (c.prog.length>100))) rfl id (okB (gtN _ _))<|aG rfl rfl rfl (by simp)<|oR 1 rfl<|gN rfl<|gS rfl id<|gBS (x:=vN c.mem.size) rfl id rfl<|gBS (x:=vB (decide (c.mem.size>600))) rfl id (okB (gtN _ _))<|aG rfl rfl rfl (by simp)<|rE 42 ?_;refine aE rfl (λ h1=>?_) (λ h1=>?_)
 ·refine aA<|aB rfl<|rCi rfl (IX)<|oR 1 rfl<|rE 44<|bC ?_;exact fT rfl (bE (by simp[c2a]))
 ·have hz:c.bus.length≤30∧c.retired.length≤100∧c.mem.size≤600:=by have z:=h1;simp[c2o]at z;omega
  have hok:c.ok 100:=hA.to hz.1 hz.2.1 hz.2.2;have hnb:100+10≤890000:=by decide
  refine aF<|aA<|aB rfl<|oR 1 rfl<|rCi rfl (Qe c 100 hok (by decide))<|rAl 44 rfl rfl<|rSx 44 (coL (SK c)) rfl rfl rfl<|rE 46<|aA<|aA<|aB rfl<|oR 1 rfl<|rCi rfl (xC c 100 hok (by decide))<|oR 1 rfl<|rE 49 ?_;refine aE rfl (λ h2=>?_) (λ h2=>?_)
  ·have hrf:bV c=false:=yW h2;refine aA<|aB rfl<|rCi rfl (IX)<|oR 1 rfl<|gN rfl<|gN rfl<|dZ (args:=[.agg (coL (SK c)),.agg (coL c)]) (x:=vB true) (g:=true) rfl rfl rfl rfl hsT rfl rfl rfl (.inl rfl) rfl (λ hg=>(show aT C0 31 [.agg (coL (SK c)),.agg (coL c)] (vB true)from by rw[Hf hrf];exact PW c 100 hok (by decide)))<|aG rfl rfl rfl (λ h=>h)<|oR 1 rfl<|rE 56<|bC ?_;exact fT rfl (bE (by simp[c2a]))
  ·have hrt:bV c=true:=TQ (jF h2);have hso:=Oc hrt;refine aF<|aA<|aB rfl<|rCi rfl (IX)<|oR 1 rfl<|gN rfl<|gS rfl id<|gN rfl<|gS rfl id<|gBS (x:=vI (IntKind.wrap .i64 (c.cycle+1))) rfl id rfl<|gBS (x:=vB (((SK c).cycle)==(IntKind.wrap .i64 (c.cycle+1)))) rfl hsT rfl<|aG rfl rfl rfl (λ h=>h)<|oR 1 rfl<|gN rfl<|gS rfl id<|gBS (x:=vN (((SK c).retired).length)) rfl id (aN spL ((SK c).retired)) ?_;refine gN rfl<|gS rfl id<|gBS (x:=vN c.retired.length) rfl id (aN spL c.retired)<|gBS (x:=vB (decide ((((SK c).retired).length)≥c.retired.length))) rfl hsT (okB (geN _ _))<|aG rfl rfl rfl (λ h=>h)<|oR 1 rfl<|gN rfl<|gS rfl id<|gBS (x:=vN (((SK c).mem).size)) rfl id rfl<|gN rfl<|gS rfl id<|gBS (x:=vN c.mem.size) rfl id rfl<|gBS (x:=vB ((((SK c).mem).size)==c.mem.size)) rfl hsT (okB (eqN _ _))<|aG rfl rfl rfl (λ h=>h)<|oR 1 rfl<|rE 77 ?_;refine bC ?_;exact fT rfl (bE (by simp[c2a,w64,hso.1,hso.2.1,hso.2.2]))
open Go.RowKit Go.ChangeShapes Go.WideShapes Go.ChangeAt
set_option maxRecDepth 100000 in
theorem yC(os:Os)(started:os.Started)(H:Type)(enc:TypeId×Value→H):
  ReturnsInHanded {} Tryz.checked os 7 .any (λ w args=>(Rows.coreWildSpec.pre enc Tryz.prog Tryz.f7 [] false w args∧laidMetH Tryz.prog IE w)∧sizedMet enc Tryz.prog Tryz.f7 (OpenSpec.ofChange Rows.coreWildSpec) false w args)
   (Rows.coreWildSpec.post enc Tryz.prog Tryz.f7 false true false false):=by
 refine returnsInHanded_of_change_and (C:=Tryz.checked) (X:=λ w _=>laidMetH Tryz.prog IE w) (λ _ _ _ hh h=>h.of_heap hh) RZ started (by kernel_rfl) Tryz.func7
  (ChangeSpec.witness_shaped (enc:=enc) (C:=Tryz.checked) (os:=os) (X:=λ w _=>laidMetH Tryz.prog IE w) false (World.doorLaid Tryz.prog 400 os) #[.agg #[.int .i64 0,.int .i64 0,.int .i64 0,.int .i64 0,.int .i64 0,.int .i64 0,.int .i64 0,.int .i64 0,.slice none 0 0,.bool false,.slice none 0 0,.slice none 0 0,.int .i64 0,.int .u32 0,.int .u32 0,.int .u32 0,.int .u32 0,.int .u32 0,.int .u32 0,.int .u32 0,.int .u32 0,.int .u32 0,.int .u32 0,.int .u32 0,.int .u32 0,.int .u32 0,.int .u32 0,.int .u32 0,.int .u32 0,.int .u32 0,.int .u32 0,.int .u32 0,.int .u32 0,.int .u32 0,.int .u32 0,.int .u32 0,.int .u32 0,.int .u32 0,.int .u32 0,.int .u32 0,.int .u32 0,.int .u32 0,.int .u32 0,.int .u32 0,.int .u32 0,.int .u32 0,.bool false,.slice none 0 0,.slice none 0 0,.int .i64 0,.slice none 0 0,.int .i64 0,.slice none 0 0,.int .i64 0,.slice none 0 0,.slice none 0 0,.int .i64 0,.int .i64 0,.string ⟨#[]⟩,.slice none 0 0,.int .u32 0,.slice none 0 0,.int .i64 0,.slice none 0 0]] 8 rfl (World.shaped_of_RefB (by kernel_rfl) (by kernel_rfl)) (by kernel_rfl) (by kernel_rfl) (by kernel_rfl) (LC os _)) ?_
 intro W base args ds gs before hval0 hW _ _ hL _;have hval:∀ (j:Nat) t v,Tryz.f7.params[j]?=some t→args[j]?=some v→Value.okWide Tryz.prog W .any base t v:=hval0;have hW':=hW;obtain⟨p,q,hA0,hV,rfl,hfz,hnd⟩:=hW;have hA:DataW.TrodAll enc Tryz.prog W 0 (λ _=>true) true Tryz.f7.params.toList args.toList ds p:=hA0;have hA1:=hA;rw[Tryz.params7]at hA hval;obtain⟨v0,vs0,d0,ds0,p0,q0,hargs,rfl,rfl,h0,r0⟩:=trodAll_cons hA;obtain⟨rfl,rfl,rfl⟩:=trodAll_nil r0;obtain rfl:args= #[v0]:=by cases args;simp_all
 obtain⟨rfl,rfl⟩:=trodVars_none hV;obtain⟨c0,rp0,hA0⟩:=KS (hval 0 _ v0 rfl rfl) h0;have hC:=BO hL;refine ((IK c0 hA0).law hC (RepL.cons rp0 (RepL.nil _ _ _))).mono λ e W' ⟨he,hb⟩=>?_;subst he;exact⟨_,rfl,LA LB (by kernel_rfl) hW' hA1 rfl rfl rfl rfl (by kernel_rfl) Tryz.underlying4 rfl rfl rfl hb⟩
set_option maxRecDepth 10000 in
set_option maxHeartbeats 4000000 in
theorem Ah:joinedFacts Tryz.prog 7 Tryz.f7 Rows.coreWildSpec Rows.coreWildRow=true:=by
 unfold joinedFacts;rw[Tc];refine⟨?_,by as_aux_lemma=>kernel_rfl⟩
 repeat (rw[Tc];refine⟨?_,by as_aux_lemma=>kernel_rfl⟩)
 as_aux_lemma=>kernel_rfl
theorem Dl:Rows.CoreWildSaid:=
 OpenClaim.holds_of_wide 7 Tryz.f7 rfl rfl rfl rfl rfl rfl rfl ⟨rfl,rfl,rfl,rfl,rfl⟩ rfl rfl rfl rfl rfl (by kernel_rfl) Tryz.func7 Ah
  (of_decide_eq_true (by kernel_rfl)) (by unfold Func.isWrapper;first|(rw[if_pos (by decide+kernel)];kernel_rfl)|(rw[if_neg (by decide+kernel)];exact⟨rfl,rfl⟩))
  (λ os started H enc _=>yC os started H enc)
theorem coreWild_holds:Rows.CoreWildCardSaid:=
 Claim7.holds_tied_plain_at .later [] [.data] true (true, "21d9afec82f0bd7b733735d36af2b3dccba2783b529c70502f59daaaa80a9f9a") false
  Dl (λ _ h=>by cases h) (by kernel_rfl) (λ _ h=>by cases h) coreWild_row_tie rfl ⟨rfl,rfl⟩ (by kernel_rfl) rfl
  (λ f fn hf hfn=>by
   obtain rfl:f=7:=Option.some.inj ((show Tryz.prog.funcNamed "auspex/auspexlaw21.CoreWild" =some 7 by kernel_rfl).symm.trans hf) |>.symm;obtain rfl:fn=Tryz.f7:=(Option.some.inj (Tryz.func7.symm.trans hfn)).symm;exact⟨by kernel_rfl,λ j t ht=>by
    have h3:(Tryz.f7.params.toList.all λ t=>Tryz.prog.wantsStandIn t==false)=true:=by kernel_rfl
    have h4:=Wl.1 h3 t (WG.2 (VI ht));exact Wb.1 h4⟩)
  (by kernel_rfl)
#print axioms coreWild_holds
end Go.Proofs.YtlhofpglndhfaaaGreatDoor
