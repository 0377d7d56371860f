import Derived.Test.YtiaekocjeinkjaaGreatDoorS31
set_option linter.all false
namespace Go.Proofs.YtiaekocjeinkjaaGreatDoor
open Go.RowKit
noncomputable def C1:a5:={C0 with lt:=true}
def l':cb C1:=⟨gr.1,gr.2,gr.3⟩
def ry{f:FuncId}{args:List AV}{r:AV}(h:bI C1 f args r):bI C0 f args r:=h
theorem dJ{f:FuncId}{b:Func}{a:Code}{args:List AV}{r:AV}(h:C1.P.funcs[f]?=some b)(i:eA C1 (bI C1) a ⟨gj args,λ _=>none,0⟩ (Fin C1 b r))(g:b.body=some a:=by rfl)(d:(b.name== "runtime.NumGoroutine")=false:=by rfl) (e:rU b.ntmps a=true:=by kernel_rfl) (c:Nat.ble args.length b.ntmps=true:=by rfl):bI C0 f args r:=ry (bI.intro l' h g d e c i)
theorem eb{f:FuncId}{b:Func}{a:Code}{args:List AV}{r:AV}(h:C1.P.funcs[f]?=some b)(g:b.body=some a)(i:en C1 (bI C1) (Fin C1 b r) (.code a) (gj args) (λ _=>none) 0 [])(d:(b.name== "runtime.NumGoroutine")=false:=by rfl) (e:rU b.ntmps a=true:=by kernel_rfl) (c:Nat.ble args.length b.ntmps=true:=by rfl):bI C0 f args r:=dJ h (zK (c:=.code a) i) g d e c
theorem hI(s:Nat){f:FuncId}{b:Func}{a:Code}{args:List AV}{h:AH}{bs:AV→AH→Prop}(j:C1.P.funcs[f]?=some b)(k:eA (C1.at s) (bI (C1.at s)) a ⟨gj args,h,s⟩ (p5 (C1.at s) b bs s))(i:b.body=some a:=by rfl)(e:(b.name== "runtime.NumGoroutine")=false:=by rfl) (g:rU b.ntmps a=true:=by kernel_rfl) (d:Nat.ble args.length b.ntmps=true:=by rfl) (c:hD h s=true:=by rfl):pM C0.P C0.G f args h s bs:=HCall.intro (C:=C1) (s:=s) l'.at j i e g d c k
theorem hZ(s:Nat){f:FuncId}{b:Func}{a:Code}{args:List AV}{h:AH}{bs:AV→AH→Prop}(j:C1.P.funcs[f]?=some b)(i:b.body=some a)(k:en (C1.at s) (bI (C1.at s)) (p5 (C1.at s) b bs s) (.code a) (gj args) h s [])(e:(b.name== "runtime.NumGoroutine")=false:=by rfl) (g:rU b.ntmps a=true:=by kernel_rfl) (d:Nat.ble args.length b.ntmps=true:=by rfl) (c:hD h s=true:=by rfl):pM C0.P C0.G f args h s bs:=hI s j (zK (c:=.code a) k) i e g d c
def af(x:Int):IntKind.wrap .i64 x=wrap64 x:=by rw[IntKind.wrap_i64];simp only[wrap64]
theorem ae(c y:Bool):cE c true y=(c||y):=by cases c<;>rfl
theorem qA(c x:Bool):cE c x false=(c&&x):=by cases c<;>rfl
def sP{p q:Prop}(h:p)(t:p->q:=by intro h;(try simp only[af,ae,qA,dE,aP,dP,kI,pU,pX,ne_eq,bA,iC,aY,mA,eJ,Bool.not_eq_false,Bool.not_eq_eq_eq_not,mD,Bool.not_false,Decidable.not_not]at h);exact h):q:=t h
abbrev h5:List AV:=[vI 0,vI 0,vI 0,vI 0,vI 0,vI 0,vI 0,vI 0,.Y 0 ([]) true,vB false,.Y 0 ([]) true,.Y 0 ([]) true,vI 0,zU,zU,zU,zU,zU,zU,zU,zU,zU,zU,zU,zU,zU,zU,zU,zU,zU,zU,zU,zU,zU,zU,zU,zU,zU,zU,zU,zU,zU,zU,zU,zU,zU,vB false,.Y 0 ([]) true,.Y 0 ([]) true,vI 0,.Y 0 ([]) true,vI 0,.Y 0 ([]) true,vI 0,.Y 0 ([]) true,.Y 0 ([]) true,vI 0,vI 0,.v (.string (⟨#[]⟩:ByteArray)),.Y 0 ([]) true,zU,.Y 0 ([]) true,vI 0,.Y 0 ([]) true]
def mT{α:Type}[BEq α][LawfulBEq α]{a b:α}(h:(a==b)=true):a=b:=eq_of_beq h
def nA{α:Type}[BEq α][LawfulBEq α]{a b:α}(h:(a==b)=false): ¬a=b:=λe=>by rw[e,beq_self_eq_true]at h;cases h
def wM{α:Type}[BEq α][LawfulBEq α]{a b:α}(h:(a != b)=true): ¬a=b:=λe=>by rw[e]at h;simp at h
def wN{α:Type}[BEq α][LawfulBEq α]{a b:α}(h:(a != b)=false):a=b:=sU h
def vW{α:Type}(f:α->List AV)(l:List α){n:Nat}(h:l.length=n):b1.ok (.v (.int .i64 ((l.map f).length:Int)))=.ok (.v (.int .i64 (n:Int))):=by rw[aH,h]
def Jv{α:Type}{l:List α}{k:Nat}{x:α}(h:l[k]?=some x):l[0+k]?=some x:=by rwa [bJ]
def Ri{p:Prop}{x:AV}{h:AH}{b rs:Nat}{r a:List (List AV)}(e:r=a):b1.fx p x (an h b (some (.arr r rs)))=.fx p x (an h b (some (.arr a rs))):=by rw[e]
def vX{α:Type}{f:α->List AV}{l:List α}{k:Nat}{x:α}{h:AH}{b rs:Nat}:some (an h b (some (.arr ((l.map f).set (0+k) (f x)) rs)))=some (an h b (some (.arr ((l.set k x).map f) rs))):=by rw[bJ,List.map_set]
def yB{p:Prop}{rs:Nat}{r a:List (List AV)}{c:Bool}(e:r=a):b1.Z9 p (.Y rs r c)=.Z9 p (.Y rs a c):=by rw[e]
def LR{p:Prop}{s lo a n b:Nat}{c:Bool}(e:lo=a)(d:n=b):b1.Z9 p (.X s lo n c)=.Z9 p (.X s a b c):=by rw[e,d]
section
variable {α:Type}(f:α->List AV)
section
variable (l:List α)
def vY(H:Nat):List.drop 0 (List.take H (l.map f))=(l.take H).map f:=by rw[bS,eO]
def Kr(L:Nat):List.drop L (List.take (l.map f).length (l.map f))=(l.drop L).map f:=by rw[cH,kM]
def Iw{p:Prop}{H:AH}{s rs m:Nat}{c:List (List AV)}(a:c.length=m):b1.fx p (.X s 0 c.length false) (an H s (some (.arr c rs)))=.fx p (.X s 0 m false) (an H s (some (.arr c rs))):=by rw[a]
def iP{p:Prop}{H:AH}{s rs n m:Nat}(B:List α)(a:l.length=n)(b:l.length+B.length=m):
  b1.fx p (.X s 0 ((List.take n (List.drop 0 (l.map f))).length+(B.map f).length) false) (an H s (some (.arr (List.take n (List.drop 0 (l.map f))++B.map f) rs)))=.fx p (.X s 0 m false) (an H s (some (.arr ((l++B).map f) rs))):=by
 rw[bS,aN (by rw[aH,a];exact aC _),aH,aH,b,dH]
def Au{p:Prop}{H:AH}{s rs m:Nat}(B:List α)(a:l.length+B.length=m):
  b1.fx p (.X s 0 ((l.map f).length+(B.map f).length) false) (an H s (some (.arr (l.map f++B.map f) rs)))=.fx p (.X s 0 m false) (an H s (some (.arr ((l++B).map f) rs))):=by
 rw[aH,aH,a,dH]
def Uo{p:Prop}{H:AH}{s rs lo n m:Nat}(B:List α)(a:((l.drop lo).take n).length+B.length=m):
  b1.fx p (.X s 0 ((List.take n (List.drop lo (l.map f))).length+(B.map f).length) false) (an H s (some (.arr (List.take n (List.drop lo (l.map f))++B.map f) rs)))=.fx p (.X s 0 m false) (an H s (some (.arr ((((l.drop lo).take n)++B).map f) rs))):=by
 rw[<-a,dH,eO,kM,aH];simp only[aM,bD,aH]
end
def DX{n:Nat}(X:List (List AV))(B:List α)(a:B.length=n)(b:X.length=n):X.take 0++(B.map f).take (min (B.map f).length n)++X.drop (0+min (B.map f).length n)=B.map f:=by
 rw[aH,a,Nat.min_self,pV,iA,cB oT,dY,aN (by rw[aH];omega)]
section
variable (l:List α)
def Cp{lo n:Nat}{M:List α}(h:(l.drop lo).take n=M):List.take n (List.drop lo (l.map f))=M.map f:=by rw[<-h,eO,kM]
def jW{n:Nat}(h:l.length<=n):List.take n (List.drop 0 (l.map f))=l.map f:=by rw[bS,aN (by rw[aH];exact h)]
end
end
def Iy{α:Type}{f:α->List AV}{l:List α}{b rs lo n:Nat}{c:Bool}(h:lo+n<=l.length):e4 (some (b,rs,l.map f)) (.X b lo n c) (.Y rs (((l.drop lo).take n).map f) false):=by
 have:=e4.Y2 (fz:=some (b,rs,l.map f)) b rs lo n (l.map f) c false R (by rw[aH];exact h) (λh=>by cases h);rw[eO,kM];exact this
def nB{α:Type}{f:α->List AV}{l:List α}{b rs n:Nat}{c:Bool}(h:l.length=n):e4 (some (b,rs,l.map f)) (.X b 0 n c) (.Y rs (l.map f) false):=by
 have:=Iy (f:=f) (b:=b) (rs:=rs) (c:=c) (l:=l) (lo:=0) (n:=n) oT
 rwa [bS,aN oT]at this
def jb{p:Prop}(h:p:=by repeat (first|exact trivial|refine⟨.refl _,?_⟩|refine⟨Iy (by exact ad),?_⟩|refine⟨nB (by exact ad),?_⟩)):p:=h
def zD{α:Type}{P:α->Prop}{l:List α}{n:Nat}(h:∀x∈l,P x):∀x∈l.take n,P x:=λx a=>h x (cQ a)
def Iz{α:Type}{P:α->Prop}{l:List α}{n:Nat}(h:∀x∈l,P x):∀x∈l.drop n,P x:=λx a=>h x (eT a)
def sJ{α:Type}{P:α->Prop}{l m:List α}(h:∀x∈l,P x)(h':∀x∈m,P x):∀x∈l++m,P x:=λx a=>(dz.1 a).elim (h x) (h' x)
def sK{α:Type}{P:α->Prop}{y:α}(h:P y):∀x∈[y],P x:=λx a=>by rw[uJ]at a;rw[a];exact h
def ea{α:Type}{P:α->Prop}{l:List α}{k:Nat}{y:α}(h:∀x∈l,P x)(h':P y):∀x∈l.set k y,P x:=λx a=>(List.mem_or_eq_of_mem_set a).elim (h x) λe=>e ▸ h'
theorem pM.Zi{P:Program}{G:Nat->Option (List AV)}{f:FuncId}{args:List AV}{rows:List (List AV)}{rs lo n:Nat}{c:Bool}(H:pM P G f args (aq []) 0 (λx h'=>x=.X 0 lo n c/\h'=aq [(0,.arr rows rs)]))(K:AH)(s2:Nat)(d:eW args=true):
  pM P G f args K s2 (λx h'=>x=.X s2 lo n c/\h'=an K s2 (some (.arr rows rs))):=by
 have:=H.frame (λx=>x) K s2 R (λx a=>absurd R a) (λx blk a=>by cases a) (λx y a=>absurd a (dG _)) (kW 0 args d) (λx h'=>x=.X s2 lo n c/\h'=an K s2 (some (.arr rows rs))) λr h' g=>?_
 .rwa [nQ _ args d]at this
 obtain⟨rfl,rfl⟩:=g;refine⟨_,⟨by simp[uW,wD],R⟩,λy blk b=>?_⟩;by_cases e:y=s2
 .subst e;rw[dB]at b;injection b with b;exact .inl ⟨0,.arr rows rs,R,(wD _ _ _).symm,by subst b;rfl⟩
 rw[cI _ _ e]at b;exact .inr ⟨b,λx a=>absurd a (dG _)⟩
theorem pM.YU{P:Program}{G:Nat->Option (List AV)}{f:FuncId}{args:List AV}{rows c:List (List AV)}{rs g n:Nat}(H:pM P G f args (aq [(0,.arr rows rs)]) 1 (λx h'=>x=.X 1 0 n false/\h'=aq [(0,.arr rows rs),(1,.arr c g)]))(b:Nat)(K:AH)(s2:Nat)(j:Nat.blt b s2=true)(k:K b=some (.arr rows rs))(q:mS 1 args=true):
  pM P G f (Bg (λ_=>b) args) K s2 (λx h'=>x=.X s2 0 n false/\h'=an K s2 (some (.arr c g))):=by
 have j:=aJ j;refine H.frame (λ_=>b) K s2 R (λx d=>?_) (λx i d=>?_) (λx y d a _=>by omega) q _ λr h' o=>?_
 .cases x with
  |zero=>omega
  |succ x=>exact absurd R d
 .cases x with
  |zero=>injection d with d;subst d;exact⟨j,R,k⟩
  |succ x=>cases d
 .obtain⟨rfl,rfl⟩:=o;refine⟨_,⟨by simp[uW,wD],R⟩,λy i a=>?_⟩;by_cases m:y=s2
  .subst m;rw[dB]at a;injection a with a;exact .inl ⟨1,.arr c g,R,(wD _ _ _).symm,by subst a;rfl⟩
  .rw[cI _ _ m]at a;by_cases h:y=b
   .subst h;rw[k]at a;injection a with a;exact .inl ⟨0,.arr rows rs,R,R,by subst a;rfl⟩
   .exact .inr ⟨a,λx d e=>h e.symm⟩
abbrev h8(b:Bool):List AV:=[.v (.bool b)]
structure ai.ok(e:ai):Prop where
 M:e.M<=4294967295
 C:e.i.C<=4294967295
 K:e.K<=4294967295
 value:e.value<=4294967295
 next:e.next<=4294967295
 W:e.W<=4294967295
structure bp.ok(x:bp):Prop where
 S:x.S<=4294967295
structure Pt.ok(x:Pt):Prop where
 W:x.W<=4294967295
structure Ft.ok(x:Ft):Prop where
 M:x.M<=4294967295
 K:x.K<=4294967295
structure Gs.ok(x:Gs):Prop where
 M:x.M<=4294967295
 next:x.next<=4294967295
structure Sp.ok(x:Sp):Prop where
 M:x.M<=4294967295
 next:x.next<=4294967295
 value:x.value<=4294967295
 W:x.W<=4294967295
def DA{a b B:Nat}(h:b<=a)(d:a<=B)(c:Nat.ble B 9223372036854775807=true):IntKind.wrap .i64 ((a:Int)-(b:Int))=((a-b:Nat):Int):=by
 have:=aJ c;rw[dd oT oT];omega
def sc(a b:Nat):Int.tmod (a:Int) (b:Int)=((a%b:Nat):Int):=pY a b |>.symm
def CI{a:Nat}(h:a<=4294967295):a<4294967296:=bG h
def oW{e a:ai}(h:e=a):AV.agg (ab e)=.agg (ab a):=by rw[h]
def DL{e a:Sp}(h:e=a):AV.agg (a2 e)=.agg (a2 a):=by rw[h]
def dR{b a:Bool}(h:b=a):AV.v (.bool b)=.v (.bool a):=by rw[h]
def Ni{b a:Int}(h:b=a):AV.v (.int .i64 b)=.v (.int .i64 a):=by rw[h]
def GW{b a:Nat}(h:b=a):AV.v (.int .u32 (b:Int))=.v (.int .u32 (a:Int)):=by rw[h]
abbrev Ks(r:Nat->Nat):List AV:=[.v (.int .u32 (r 0:Int)),.v (.int .u32 (r 1:Int)),.v (.int .u32 (r 2:Int)),.v (.int .u32 (r 3:Int)),.v (.int .u32 (r 4:Int)),.v (.int .u32 (r 5:Int)),.v (.int .u32 (r 6:Int)),.v (.int .u32 (r 7:Int)),.v (.int .u32 (r 8:Int)),.v (.int .u32 (r 9:Int)),.v (.int .u32 (r 10:Int)),.v (.int .u32 (r 11:Int)),.v (.int .u32 (r 12:Int)),.v (.int .u32 (r 13:Int)),.v (.int .u32 (r 14:Int)),.v (.int .u32 (r 15:Int)),.v (.int .u32 (r 16:Int)),.v (.int .u32 (r 17:Int)),.v (.int .u32 (r 18:Int)),.v (.int .u32 (r 19:Int)),.v (.int .u32 (r 20:Int)),.v (.int .u32 (r 21:Int)),.v (.int .u32 (r 22:Int)),.v (.int .u32 (r 23:Int)),.v (.int .u32 (r 24:Int)),.v (.int .u32 (r 25:Int)),.v (.int .u32 (r 26:Int)),.v (.int .u32 (r 27:Int)),.v (.int .u32 (r 28:Int)),.v (.int .u32 (r 29:Int)),.v (.int .u32 (r 30:Int)),.v (.int .u32 (r 31:Int))]
def S_(r:Nat->Nat)(n:Nat)(a:n<32):et (Lg (Ks r) (0+n*1))=.ok (.v (.int .u32 (r n:Int))):=by
 have:∀(n:_root_.Fin 32),et (Lg (Ks r) (0+n.1*1))=.ok (.v (.int .u32 (r n.1:Int))):=by
  intro n
  match n with
  |⟨0,_⟩=>rfl
  |⟨1,_⟩=>rfl
  |⟨2,_⟩=>rfl
  |⟨3,_⟩=>rfl
  |⟨4,_⟩=>rfl
  |⟨5,_⟩=>rfl
  |⟨6,_⟩=>rfl
  |⟨7,_⟩=>rfl
  |⟨8,_⟩=>rfl
  |⟨9,_⟩=>rfl
  |⟨10,_⟩=>rfl
  |⟨11,_⟩=>rfl
  |⟨12,_⟩=>rfl
  |⟨13,_⟩=>rfl
  |⟨14,_⟩=>rfl
  |⟨15,_⟩=>rfl
  |⟨16,_⟩=>rfl
  |⟨17,_⟩=>rfl
  |⟨18,_⟩=>rfl
  |⟨19,_⟩=>rfl
  |⟨20,_⟩=>rfl
  |⟨21,_⟩=>rfl
  |⟨22,_⟩=>rfl
  |⟨23,_⟩=>rfl
  |⟨24,_⟩=>rfl
  |⟨25,_⟩=>rfl
  |⟨26,_⟩=>rfl
  |⟨27,_⟩=>rfl
  |⟨28,_⟩=>rfl
  |⟨29,_⟩=>rfl
  |⟨30,_⟩=>rfl
  |⟨31,_⟩=>rfl
  |⟨k+32,h⟩=>exact absurd h oT
 exact this ⟨n,a⟩
def A0(r:Nat->Nat)(n v:Nat)(a:n<32):zS (0+n*1) [.v (.int .u32 (v:Int))] (Ks r)=Ks (hL r n v):=by
 have:∀(n:_root_.Fin 32),zS (0+n.1*1) [.v (.int .u32 (v:Int))] (Ks r)=Ks (hL r n.1 v):=by
  intro n
  match n with
  |⟨0,_⟩=>rfl
  |⟨1,_⟩=>rfl
  |⟨2,_⟩=>rfl
  |⟨3,_⟩=>rfl
  |⟨4,_⟩=>rfl
  |⟨5,_⟩=>rfl
  |⟨6,_⟩=>rfl
  |⟨7,_⟩=>rfl
  |⟨8,_⟩=>rfl
  |⟨9,_⟩=>rfl
  |⟨10,_⟩=>rfl
  |⟨11,_⟩=>rfl
  |⟨12,_⟩=>rfl
  |⟨13,_⟩=>rfl
  |⟨14,_⟩=>rfl
  |⟨15,_⟩=>rfl
  |⟨16,_⟩=>rfl
  |⟨17,_⟩=>rfl
  |⟨18,_⟩=>rfl
  |⟨19,_⟩=>rfl
  |⟨20,_⟩=>rfl
  |⟨21,_⟩=>rfl
  |⟨22,_⟩=>rfl
  |⟨23,_⟩=>rfl
  |⟨24,_⟩=>rfl
  |⟨25,_⟩=>rfl
  |⟨26,_⟩=>rfl
  |⟨27,_⟩=>rfl
  |⟨28,_⟩=>rfl
  |⟨29,_⟩=>rfl
  |⟨30,_⟩=>rfl
  |⟨31,_⟩=>rfl
  |⟨k+32,h⟩=>exact absurd h oT
 exact this ⟨n,a⟩
def Di{ev:Operand->AV}{h:AH}{s b n v:Nat}{a x:Operand}{r:Nat->Nat}(d:ev a=.ptr b (0+n*1))(e:h b=some (.box (Ks r)))(j:ev x=.v (.int .u32 (v:Int)))(i:n<32):
  bj C0 ev h s (.store 29 a x)=.fx True .any (an h b (some (.box (Ks (hL r n v))))):=by
 have c:C0.ty 29=some ru:=rfl;have g:(0+n*1+([.v (.int .u32 (v:Int))]:List AV).length).ble (Ks r).length=true:=iL (by simp;omega);simp only[bj,c,j,kN,d,e];rw[show([AV.v (Value.int IntKind.u32 (v:Int))].length.beq 1)=true from R];simp only;rw[g];simp only;rw[A0 _ _ _ i]
open Go.Proofs.Tryz
set_option maxRecDepth 100000
set_option maxHeartbeats 4000000
def pP{α:Type}{l:List α}{k:Nat}(h:k<l.length):(eY l k).length=l.length:=by
 unfold eY;rw[aA h];simp;omega
def Cm{α:Type}{l:List α}{k:Nat}{x:α}(h:l[k]?=some x):eY l k=[x]++l.take k++l.drop (k+1):=by unfold eY;rw[h]
def pQ{α:Type}{P:α->Prop}{l:List α}{k:Nat}(h:∀x∈l,P x):∀x∈eY l k,P x:=by
 intro x hx;unfold eY at hx;rcases dz.1 hx with hx|hx
 .rcases dz.1 hx with hx|hx
  .split at hx
   .rename_i y a;simp at hx;subst hx;exact h _ (aB a)
   simp at hx
  exact h _ (cQ hx)
 exact h _ (eT hx)
def kJ{c:Ca}(h:gG c=true):0<c.O.length/\c.O.length<=4/\c.ways<=2/\1<=c.ways/\∀s∈c.O,(s.length:Int)<=c.ways:=by
 obtain⟨⟨e,g⟩,a⟩:=(jL c).1 h;refine⟨oT,oT,oT,oT,λs d=>?_⟩;obtain⟨k,b,rfl⟩:=fY d;exact((jX c k _).1 (a k _ (aA b))).1
theorem Fd:∀{l:List Wy} {agY j:Nat},jY l agY=some j->j<l.length
 |[],_,_,h=>by cases h
 | w::l,agY,j,h=>by
  simp only[jY]at h;split at h
  .injection h with h;subst h;simp
  .obtain⟨i,a,rfl⟩:=Gi.1 h;have:=Fd a;simp;omega
def vA{c:Ca}{k:Nat}{s:List Wy}(h:c.O[k]?=some s):pF c k=s:=by unfold pF;rw[h];rfl
def AP{c:Ca}(h:0<c.O.length)(agY:Nat):hj c agY<c.O.length:=aQ _ h
def rI{c:Ca}{agY:Nat}(h:gG c=true):bK c agY=(hj c (ao agY),jY (pF c (hj c (ao agY))) (ao agY)):=aa h
def pR{c:Ca}{agY:Nat}(h:(bK c agY).2.isSome=true):gG c=true/\(bK c agY).1=hj c (ao agY)/\(bK c agY).1<c.O.length/\(bK c agY).2.getD 0<(pF c (bK c agY).1).length:=by
 by_cases a:gG c=true
 .rw[rI a]at h⊢;obtain⟨j,d⟩:=FH.1 h;have b:jY (pF c (hj c (ao agY))) (ao agY)=some j:=d;refine⟨a,R,AP (kJ a).1 _,?_⟩;rw[b];exact Fd b
 unfold bK at h;rw[dZ a]at h;cases h
def Dw{c:Ca}{agY:Nat}(h:(bK c agY).2.isSome=true):tO c agY=rK c (bK c agY).1 (eY (pF c (bK c agY).1) ((bK c agY).2.getD 0)):=by
 unfold tO;obtain⟨j,a⟩:=FH.1 h;have e:bK c agY=((bK c agY).1,some j):=by rw[<-a]
 rw[e];rfl
def Dx{c:Ca}{agY:Nat}(h:(bK c agY).2.isSome=false):tO c agY=c:=by
 unfold tO;have a:(bK c agY).2=none:=sU h;have e:bK c agY=((bK c agY).1,none):=by rw[<-a]
 rw[e]
def AT(a b:Int):max a b=if b>a then b else a:=oT
def Ng(q:List bp)(b:Int)(agY:Nat)(left:Int)(a:ByteArray)(e:Bool)(g:q.length<=900000)(h:∀x∈q,x.ok)(c:agY<=4294967295):bI C0 189 [.Y 4 (q.map bv) e,vI b,vU agY,vI left,.v (.string a)] (.Y 4 ((Bi q b agY left a).map bv) false):=by
 refine bc func189 R<|rW _ R (cD bv q) ?_;have d:q.length+1<=900001:=aD g (aC 1);refine rW _ R (ap (bH d R))<|zF (x:=.X 4 0 0 false) (h':=an _ 4 (some (.arr (([]:List bp).map bv) 4))) (rfl) (⟨dT,FG.2 ad,by show(((q.length+1):Nat):Int)<=1000000;omega⟩)<|zF (x:=.X 8 0 q.length false) (h':=an (an _ 4 none) 8 (some (.arr (q.map bv) 4))) (iP bv ([]:List bp) q ad ad) (⟨by exact ad,by exact ad,tr⟩)<|zW (vI (if 1>left then 1 else left)) R<|rV (.agg [vI b,vU agY,vI (if 1>left then 1 else left),.v (.string a)]) R<|rV (.Y 4 ([[vI b,vU agY,vI (if 1>left then 1 else left),.v (.string a)]]) true) R<|zF (x:=.X 18 0 (q.length+1) false) (h':=an (an _ 8 none) 18 (some (.arr ((q++([(⟨b,agY,if 1>left then 1 else left,a⟩:bp)])).map bv) 4))) (iP bv q ([(⟨b,agY,if 1>left then 1 else left,a⟩:bp)]) ad ad) (⟨by exact ad,by exact ad,tr⟩)<|dK R (by show 0+(q.length+1)<=((q++([(⟨b,agY,if 1>left then 1 else left,a⟩:bp)])).map bv).length;exact ad) R ?_;show AV.Y 4 (List.take (q.length+1) (List.drop 0 ((q++([(⟨b,agY,if 1>left then 1 else left,a⟩:bp)])).map bv))) false=_;rw[jW bv (q++([(⟨b,agY,if 1>left then 1 else left,a⟩:bp)])) ad];rw[show Bi q b agY left a=q++([(⟨b,agY,if 1>left then 1 else left,a⟩:bp)])from by unfold Bi;congr 3;exact AT left 1]
abbrev T5(t:List bp×bp×Bool):AV:=.F [.Y 4 (t.1.map bv) false,.agg (bv t.2.1),vB t.2.2]
def VL(q:List bp)(j:Bool)(r:q.length<=900000)(k:∀x∈q,x.ok):bI C0 120 [.Y 4 (q.map bv) j] (T5 (eH q)):=by
 refine eb func120 R<|rW (vN q.length) R (cD bv q)<|zW (vB (q.length==0)) (ak (ba _ _))<|zB R (λg=>?_) (λg=>?_)
 .have d:=mT g;refine zV (.agg [vI 0,.v (.int .u32 0),vI 0,.v (.string (⟨#[]⟩:ByteArray))]) ?_;have m:q=[]:=gq d;subst m;exact⟨_,R,tr,R,Sub.F ⟨Sub.clip 4 _ j,Sub.refl _,Sub.refl _,tr⟩⟩
 have d:=nA g;refine rW (vN q.length) R (cD bv q)<|zF (x:=.X 8 0 q.length false) (h':=an _ 8 (some (.arr ((List.replicate q.length OU).map bv) 4))) (Ri (fH (f:=bv) (a:=OU)).symm) (⟨aG _,FG.2 ad,by show((q.length:Nat):Int)<=1000000;omega⟩)<|zF (x:=vI ((min ((q.map bv).length) (q.length):Nat):Int)) (h':=an _ 8 (some (.arr (q.map bv) 4))) (II (DX bv ((List.replicate q.length OU).map bv) q ad ad)) (⟨by exact ad,tr⟩)<|zM (.x 8 (0+0) 0) R (⟨dT,FF.2 (by show 0<q.length;exact ad)⟩) ?_;obtain⟨x,a⟩:∃n,q[0]?=some n:=⟨_,aA ad⟩;have o:=k x (aB a);refine FO (bv x) (x:=vI x.left) R R R (⟨dT,Jv (iH a)⟩) R<|rV (vI (IntKind.wrap .i64 (x.left-1))) R<|zM (.x 8 (0+0) 0) R (⟨dT,FF.2 (by show 0<q.length;exact ad)⟩) ?_;have e:(q.set 0 (⟨x.kind,x.S,IntKind.wrap .i64 (x.left-1),x.data⟩:bp))[0]?=some (⟨x.kind,x.S,IntKind.wrap .i64 (x.left-1),x.data⟩:bp):=aZ ad;refine nM (bv x) (h':=an _ 8 (some (.arr ((q.set 0 (⟨x.kind,x.S,IntKind.wrap .i64 (x.left-1),x.data⟩:bp)).map bv) 4))) R R R (⟨dT,Jv (iH a)⟩) (vX (f:=bv) (l:=q) (k:=0) (x:=(⟨x.kind,x.S,IntKind.wrap .i64 (x.left-1),x.data⟩:bp)))<|qR 0 R<|zM (.x 8 (0+0) 0) R (⟨dT,FF.2 (by show 0<q.length;exact ad)⟩)<|FO (bv (⟨x.kind,x.S,IntKind.wrap .i64 (x.left-1),x.data⟩:bp)) (x:=vI (IntKind.wrap .i64 (x.left-1))) R R R (⟨dT,Jv (iH e)⟩) R<|de (decide ((IntKind.wrap .i64 (x.left-1))>0)) (λh=>?_) (λh=>?_)
 .have b:=ax h;refine zV (.agg [vI 0,.v (.int .u32 0),vI 0,.v (.string (⟨#[]⟩:ByteArray))]) ?_
  try simp only[af]at b
  obtain⟨l,c⟩:∃l,q=x::l:=by cases q with|nil=>cases a|cons y l=>injection a with a;subst a;exact⟨l,R⟩
  have i:eH q=({x with left:=wrap64 (x.left-1)}::l,OU,false):=by rw[c];unfold eH;simp only[aa b]
  rw[i];refine dK R ⟨(by show 0+q.length<=((q.set 0 (⟨x.kind,x.S,IntKind.wrap .i64 (x.left-1),x.data⟩:bp)).map bv).length;exact ad),ga,tr,tr⟩ R ?_;show AV.F [.Y 4 (List.take q.length (List.drop 0 ((q.set 0 (⟨x.kind,x.S,IntKind.wrap .i64 (x.left-1),x.data⟩:bp)).map bv))) false,.agg [vI 0,.v (.int .u32 0),vI 0,.v (.string (⟨#[]⟩:ByteArray))],vB false]=_;rw[jW bv (q.set 0 (⟨x.kind,x.S,IntKind.wrap .i64 (x.left-1),x.data⟩:bp)) ad];rw[c];simp only[af,gM]
  try rfl
 have b:=aF h;refine pO R R<|oR 1 R<|nW (.X 8 1 (q.length-1) false) R (LR (by first|rfl|omega) (by simp only[Option.getD];omega)) g_<|oR 1 rfl<|nW (.x 8 (0+0) 0) rfl rfl (⟨dT,FF.2 (by show 0<q.length;exact ad)⟩)<|FO (bv (⟨x.kind,x.S,IntKind.wrap .i64 (x.left-1),x.data⟩:bp)) (x:=.agg (bv (⟨x.kind,x.S,IntKind.wrap .i64 (x.left-1),x.data⟩:bp))) R R R (⟨dT,Jv (iH e)⟩) R<|oR 1 R<|a1 R<|oR 1 R<|rE 34<|And.intro (by kernel_rfl)<|ck 0 R ?_
 try simp only[af]at b
 obtain⟨l,c⟩:∃l,q=x::l:=by cases q with|nil=>cases a|cons y l=>injection a with a;subst a;exact⟨l,R⟩
 have i:eH q=(l,{x with left:=wrap64 (x.left-1)},true):=by rw[c];unfold eH;simp only[dZ b]
 rw[i];refine dK R ⟨(by show 1+(q.length-1)<=((q.set 0 (⟨x.kind,x.S,IntKind.wrap .i64 (x.left-1),x.data⟩:bp)).map bv).length;exact ad),ga,tr,tr⟩ R ?_;show AV.F [.Y 4 (List.take (q.length-1) (List.drop 1 ((q.set 0 (⟨x.kind,x.S,IntKind.wrap .i64 (x.left-1),x.data⟩:bp)).map bv))) false,.agg [vI x.kind,vU x.S,vI (IntKind.wrap .i64 (x.left-1)),.v (.string x.data)],vB true]=_;rw[Cp (M:=(q.set 0 (⟨x.kind,x.S,IntKind.wrap .i64 (x.left-1),x.data⟩:bp)).drop 1) bv (q.set 0 (⟨x.kind,x.S,IntKind.wrap .i64 (x.left-1),x.data⟩:bp)) (aN ad)];rw[c];simp only[af,gM,List.drop_succ_cons,bS]
 try rfl
def q1(s:List Wy)(k:Nat)(c:Bool)(e:k<s.length)(h:s.length<=900000)(g:∀x∈s,x.ok):bI C0 169 [.Y 3 (s.map a0) c,vN k] (.Y 3 ((eY s k).map a0) false):=by
 refine bc func169 R<|rW _ R (cD a0 s)<|zF (x:=.X 3 0 0 false) (h':=an _ 3 (some (.arr (([]:List Wy).map a0) 3))) (rfl) (⟨dT,FG.2 ad,by show((s.length:Nat):Int)<=1000000;omega⟩) ?_;obtain⟨x,a⟩:∃d,s[k]?=some d:=⟨_,aA ad⟩;refine zX (a0 x) (.k 3 0 (a0 x)) R (iH a)<|rV (.Y 3 ([[vU x.S,vB x.f,.v (.string x.data)]]) true) R<|zF (x:=.X 11 0 1 false) (h':=an (an _ 3 none) 11 (some (.arr (([x]).map a0) 3))) (iP a0 ([]:List Wy) ([x]) ad ad) (⟨by exact ad,by exact ad,tr⟩)<|nW _ R (yB (vY a0 s k)) g_<|zF (x:=.X 17 0 (1+k) false) (h':=an (an _ 11 none) 17 (some (.arr ((([x])++(s.take k)).map a0) 3))) (iP a0 ([x]) (s.take k) ad ad) (⟨by exact ad,by exact ad,tr⟩) ?_;have b:k+1<=900001:=aD ad (aC 1);refine rW _ R (ap (bH b R))<|nW _ R (yB (Kr a0 s (k+1))) g_<|zF (x:=.X 24 0 (1+k+s.length-(k+1)) false) (h':=an (an _ 17 none) 24 (some (.arr (((([x])++(s.take k))++(s.drop (k+1))).map a0) 3))) (iP a0 (([x])++(s.take k)) (s.drop (k+1)) ad ad) (⟨by exact ad,by exact ad,tr⟩)<|dK R (by show 0+(1+k+s.length-(k+1))<=(((([x])++(s.take k))++(s.drop (k+1))).map a0).length;exact ad) R ?_;show AV.Y 3 (List.take (1+k+s.length-(k+1)) (List.drop 0 (((([x])++(s.take k))++(s.drop (k+1))).map a0))) false=_;rw[jW a0 ((([x])++(s.take k))++(s.drop (k+1))) ad];rw[Cm a]
def VM(s:List Wy)(k:Nat)(c:Bool)(h:k<s.length)(j:s.length<=900000)(i:∀x∈s,x.ok):pM C0.P C0.G 169 [.Y 3 (s.map a0) c,vN k] (aq []) 0 (λx h'=>x=.X 0 0 s.length false/\h'=aq [(0,.arr ((eY s k).map a0) 3)]):=by
 refine HCall.intro (C:=C0) (s:=0) gr.at func169 R R (by kernel_rfl) R R<|qS 0 R<|rW _ R (cD a0 s)<|zF (x:=.X 3 0 0 false) (h':=an _ 3 (some (.arr (([]:List Wy).map a0) 3))) (rfl) (⟨dT,FG.2 ad,by show((s.length:Nat):Int)<=1000000;omega⟩) ?_;obtain⟨x,a⟩:∃g,s[k]?=some g:=⟨_,aA ad⟩;refine zX (a0 x) (.k 3 0 (a0 x)) R (iH a)<|rV (.Y 3 ([[vU x.S,vB x.f,.v (.string x.data)]]) true) R<|zF (x:=.X 11 0 1 false) (h':=an (an _ 3 none) 11 (some (.arr (([x]).map a0) 3))) (iP a0 ([]:List Wy) ([x]) ad ad) (⟨by exact ad,by exact ad,tr⟩)<|nW _ R (yB (vY a0 s k)) g_<|zF (x:=.X 17 0 (1+k) false) (h':=an (an _ 11 none) 17 (some (.arr ((([x])++(s.take k)).map a0) 3))) (iP a0 ([x]) (s.take k) ad ad) (⟨by exact ad,by exact ad,tr⟩) ?_;have b:k+1<=900001:=aD ad (aC 1);refine rW _ R (ap (bH b R))<|nW _ R (yB (Kr a0 s (k+1))) g_<|zF (x:=.X 24 0 (1+k+s.length-(k+1)) false) (h':=an (an _ 17 none) 24 (some (.arr (((([x])++(s.take k))++(s.drop (k+1))).map a0) 3))) (iP a0 (([x])++(s.take k)) (s.drop (k+1)) ad ad) (⟨by exact ad,by exact ad,tr⟩) ?_;have e:(([x])++(s.take k))++(s.drop (k+1))=eY s k:=(Cm a).symm;have d:1+k+s.length-(k+1)=s.length:=oT;refine BH (rs:=[.X 24 0 (1+k+s.length-(k+1)) false]) R (r:=.X 0 0 s.length false) (σ:=λ_=>24) ⟨R,R⟩ R (ah (λ_=>24) ?_ R ⟨⟨R,?_,R⟩,tr⟩ R)
 .show AV.X 24 0 (1+k+s.length-(k+1)) false=.X 24 0 s.length false;rw[d]
 show some (a'.arr (((([x])++(s.take k))++(s.drop (k+1))).map a0) 3)=some (a'.arr ((eY s k).map a0) 3);rw[e]
def LP(c:Ca)(k:Nat)(s:List Wy)(g:c.ok)(h:k<c.O.length)(b:c.O.length<=900000)(j:s.length<=900000)(i:∀x∈s,x.ok):bI C0 170 [.agg (fy c false),vN k,.Y 3 (s.map a0) false] (.agg (fy (rK c k s) false)):=by
 refine bc func170 R<|rW _ R (cD bX c.O)<|zF (x:=.X 5 0 c.O.length false) (h':=an _ 5 (some (.arr (List.replicate c.O.length [.Y 0 ([]) true]) 1))) (rfl) (⟨aG _,iF _,by show((c.O.length:Nat):Int)<=1000000;have:=b;omega⟩)<|zF (x:=vI ((min ((c.O.map bX).length) (c.O.length):Nat):Int)) (h':=an _ 5 (some (.arr (c.O.map bX) 1))) (II (DX bX (List.replicate c.O.length [.Y 0 ([]) true]) c.O ad ad)) (⟨by exact ad,tr⟩)<|nW (.x 5 (0+k) 0) R R fd ?_;obtain⟨d,a⟩:∃e,c.O[k]?=some e:=⟨_,aA ad⟩;refine nM (bX d) (h':=an _ 5 (some (.arr ((c.O.set k s).map bX) 1))) R R R (⟨aG _,Jv (iH a)⟩) (vX (f:=bX) (l:=c.O) (k:=k) (x:=s))<|qR 0 R<|zV (.agg [vI c.ways,.X 5 0 c.O.length false])<|dK R ⟨tr,(by show 0+c.O.length<=((c.O.set k s).map bX).length;exact ad),tr⟩ R ?_;show AV.agg [vI c.ways,.Y 1 (List.take c.O.length (List.drop 0 ((c.O.set k s).map bX))) false]=_;rw[jW bX (c.O.set k s) ad];refine am (λz=>AV.agg ((λz=>fy z false) z)) (?_:(⟨c.ways,c.O.set k s⟩:Ca)=rK c k s);rfl
def As(c:Ca)(agY:Nat)(e:c.ok)(a:agY<=4294967295):bI C0 143 [.agg (fy c false),vU agY] (.F [vN (bK c agY).1,vN ((bK c agY).2.getD 0),vB (bK c agY).2.isSome]):=by
 refine bc func143 R<|zC (AW c false e)<|zB R (λh=>?_) (λh=>?_)
 .have b:gG c=false:=sU h;exact fT R (by unfold bK;rw[dZ (by rw[b];decide)];rfl)
 have b:gG c=true:=sU h;obtain⟨g,n,r,q,j⟩:=kJ b;have m:=AP g (ao agY);refine zC (tN agY a)<|zC (VO c (ao agY) false g ad (dV a)) ?_;obtain⟨s,d⟩:∃k,c.O[(hj c (ao agY))]?=some k:=⟨_,aA ad⟩;have i:=e.set s (aB d);have o:s.length<=2:=oH (j s (aB d));refine zX (bX s) (.k 1 0 (bX s)) R (iH d)<|zC (VP s (ao agY) false ad i.2 (dV a)) ?_;exact fT R (by rw[rI b,vA d];rfl)
def AQ(c:Ca)(agY:Nat):(bK c agY).1<=4/\(bK c agY).2.getD 0<=2:=by
 by_cases h:gG c=true
 .obtain⟨b,k,g,e,d⟩:=kJ h;rw[rI h];have a:=AP b (ao agY);refine⟨by show hj _ _<=4;omega,?_⟩;show(jY _ _).getD 0<=2
  cases hp:jY (pF c (hj c (ao agY))) (ao agY)with
  |none=>exact aE _
  |some j=>
   have:=Fd hp;rw[vA (aA a)]at this;have i:=d _ (jO a);show j<=2;omega
 .unfold bK;rw[dZ h];exact⟨aE _,aE _⟩
def It(c:Ca)(agY:Nat)(b:c.ok)(e:agY<=4294967295):bI C0 147 [.agg (fy c false),vU agY] (.agg (fy (tO c agY) false)):=by
 refine eb func147 R ?_;have r:=AQ c agY;refine zC (As c agY b e)<|zB R (λj=>?_) (λj=>?_)
 .have d:(bK c agY).2.isSome=false:=sU j;exact dK R ⟨tr,tr,tr⟩ R (by rw[Dx d];rfl)
 have d:(bK c agY).2.isSome=true:=sU j;obtain⟨n,q,k,a⟩:=pR d;obtain⟨t,u,x,w,m⟩:=kJ n;refine a7<|oR 5 R ?_;obtain⟨s,g⟩:∃o,c.O[((bK c agY).1)]?=some o:=⟨_,aA ad⟩;have i:=b.set s (aB g);have h:=vA g;rw[h]at a;have v:s.length<=2:=oH (m s (aB g));refine ja (bX s) (.k 1 0 (bX s)) R R (iH g) R<|oR 2 R<|aW R (q1 s ((bK c agY).2.getD 0) false a ad i.2)<|aW R (LP c ((bK c agY).1) (eY s ((bK c agY).2.getD 0)) b k ad (by rw[pP a];omega) (pQ i.2))<|a1 R<|rE 25<|ck 0 R ?_;exact dK R ⟨tr,tr,tr⟩ R (by rw[Dw d,h];rfl)
def Fe{α:Type}{f:α->α}{l:List α}{x:α}(h:l[0]?=some x):ku f l=l.set 0 (f x):=by
 cases l with
 |nil=>cases h
 |cons y l=>injection h with h;subst h;rfl
def GU{α:Type}(l:List α)(x:α)(n:Nat)(a:n=l.length):eY (l++[x]) n=x::l:=by
 subst a;rw[Cm (x:=x) (by simp)];simp
def Nh{c:Ca}(h:gG c=false)(agY:Nat)(d:ByteArray)(b:Bool):qZ c agY d b=(c,qE,false):=by unfold qZ;rw[dZ (by rw[h];decide)]
def Cn{c:Ca}{agY:Nat}(a:(bK c agY).2.isSome=true)(d:ByteArray)(b:Bool):qZ c agY d b=(rK c (bK c agY).1 (ku (λw=>{w with data:=if(dC d).size=0 then w.data else dC d,f:=w.f||b}) (eY (pF c (bK c agY).1) ((bK c agY).2.getD 0))),qE,false):=by
 unfold qZ;obtain⟨j,g⟩:=FH.1 a;have e:bK c agY=((bK c agY).1,some j):=by rw[<-g]
 rw[aa (pR a).1,e];rfl
def AR{c:Ca}{agY:Nat}(g:gG c=true)(a:(bK c agY).2.isSome=false)(d:ByteArray)(b:Bool):qZ c agY d b=if((pF c (bK c agY).1).length:Int)=c.ways then(rK c (bK c agY).1 (⟨ao agY,b,dC d⟩::(pF c (bK c agY).1).dropLast),(pF c (bK c agY).1).getLast?.getD qE,true)else(rK c (bK c agY).1 (⟨ao agY,b,dC d⟩::pF c (bK c agY).1),qE,false):=by
 unfold qZ;have h:(bK c agY).2=none:=sU a;have e:bK c agY=((bK c agY).1,none):=by rw[<-h]
 rw[aa g,e]
abbrev C_(p:Ca×Wy×Bool):AV:=.F [.agg (fy p.1 false),.agg (a0 p.2.1),vB p.2.2]
def oc(d:ByteArray):d.toList.length=d.size:=by
 rw[ByteArray.toList_eq];exact cV
def Uk{d:ByteArray}(h: ¬d.size=0):(!(d.toList==(⟨#[]⟩:ByteArray).toList))=true:=by
 cases a:d.toList==(⟨#[]⟩:ByteArray).toList with
 |false=>rfl
 |true=>
  have:=am List.length (eq_of_beq a);rw[oc,oc]at this;exact absurd this h
def jr(d:ByteArray):(d.toList==(⟨#[]⟩:ByteArray).toList)=decide (d.size=0):=by
 by_cases h:d.size=0
 .rw[jP h];have e:d.toList=(⟨#[]⟩:ByteArray).toList:=by rw[ByteArray.toList_eq,ByteArray.toList_eq];exact gq (by rw[cV];exact h)
  rw[e];exact beq_self_eq_true _
 rw[sW h];have:=Uk h;simpa using this
def ya{d:ByteArray}(h:(!(d.toList==(⟨#[]⟩:ByteArray).toList))=true): ¬d.size=0:=by rw[jr]at h;simpa using h
def yb{d:ByteArray}(h:(!(d.toList==(⟨#[]⟩:ByteArray).toList))=false):d.size=0:=by rw[jr]at h;simpa using h
def OO{d:ByteArray}(h: ¬d.size=16):dC d=oZ:=dZ h
def LQ{d:ByteArray}(h:d.size=16):dC d=d:=aa h
def Re(c:Ca)(agY:Nat)(a:ByteArray)(b:Bool)(h:c.ok)(d:agY<=4294967295):bI C0 124 [.agg (fy c false),vU agY,.v (.string a),.v (.bool b)] (C_ (qZ c agY a b)):=by
 refine eb func124 R ?_;have M:=AQ c agY;refine zC (AW c false h)<|aV R (λB=>?_) (λB=>?_)
 .have u:gG c=false:=sU B;refine qC 0 R<|zV (.agg [zU,vB false,.v (.string (⟨#[]⟩:ByteArray))]) ?_;rw[Nh u];exact fT R R
 have u:gG c=true:=sU B;obtain⟨I,P,S,Q,y⟩:=kJ u;have q:(bK c agY).1<c.O.length:=by rw[rI u];exact AP I _
 refine o' 0 0 R<|Fq (κ:=Unit) (λJ=>⟨a6 [(1,vU agY),(2,.v (.string (dC a))),(3,vB b),(4,.ptr 0 0),(8,.ptr 1 0),(9,.ptr 2 0),(10,vB false)],aq [(0,.box [vI c.ways,.Y 1 (c.O.map bX) false]),(1,.box [vI 0,.Y 0 ([]) true]),(2,.box [zU,vB false,.v (.string (⟨#[]⟩:ByteArray))])],7⟩) (λJ=>True) ?_ ?_
 .refine qS 0 R<|rV (vN a.size) R<|zW (vB (a.size != 16)) (ak (db _ _))<|zB R (λC=>?_) (λC=>?_)
  .have G:=wM C;refine .mk _ (.refl _) ⟨(),λs=>s,au _ ⟨⟨R,R⟩,⟨(am (λz=>AV.v (.string z)) (show(⟨#[]⟩:ByteArray)=dC a from(OO ad).symm)),R⟩,⟨R,R⟩,⟨R,R⟩,⟨R,R⟩,⟨R,R⟩,⟨R,R⟩,tr⟩ wH R,R,tr⟩
  have G:=wN C;refine .mk _ (.refl _) ⟨(),λs=>s,au _ ⟨⟨R,R⟩,⟨(am (λz=>AV.v (.string z)) (show a=dC a from(LQ ad).symm)),R⟩,⟨R,R⟩,⟨R,R⟩,⟨R,R⟩,⟨R,R⟩,⟨R,R⟩,tr⟩ wH R,R,tr⟩
 intro J _;refine qC 0 R<|zC (As c agY h d)<|aV R (λD=>?_) (λD=>?_)
 .have t:(bK c agY).2.isSome=true:=sU D;have x:=(pR t).2.2.2;obtain⟨s,k⟩:∃m,c.O[((bK c agY).1)]?=some m:=⟨_,aA ad⟩;have e:=h.set s (aB k);have i:=vA k;have n:s.length<=2:=oH (y s (aB k));rw[i]at x;have N:=pP x;refine qC 0 R<|zX (bX s) (.k 1 0 (bX s)) R (iH k)<|zH R ((VM s ((bK c agY).2.getD 0) false ad ad e.2).Zi _ _ R) ?_;rintro _ _ ⟨rfl,rfl⟩;refine zV (vB (!((dC a).toList==(⟨#[]⟩:ByteArray).toList)))<|aV R (λE=>?_) (λE=>?_)
  .refine qC 0 R<|zM (.x 24 (0+0) 0) R (⟨dT,FF.2 (by show 0<s.length;exact ad)⟩) ?_;obtain⟨w,o⟩:∃m,(eY s ((bK c agY).2.getD 0))[0]?=some m:=⟨_,aA ad⟩;have r:=(pQ e.2) w (aB o);have A:((eY s ((bK c agY).2.getD 0)).set 0 (⟨w.S,w.f,(dC a)⟩:Wy))[0]?=some (⟨w.S,w.f,(dC a)⟩:Wy):=aZ ad;refine nM (a0 w) (h':=an _ 24 (some (.arr (((eY s ((bK c agY).2.getD 0)).set 0 (⟨w.S,w.f,(dC a)⟩:Wy)).map a0) 3))) R R R (⟨dT,Jv (iH o)⟩) (vX (f:=a0) (l:=eY s ((bK c agY).2.getD 0)) (k:=0) (x:=(⟨w.S,w.f,(dC a)⟩:Wy)))<|lv 0 0 R<|FP<|qS 0 R<|zM (.x 24 (0+0) 0) R (⟨dT,FF.2 (by show 0<s.length;exact ad)⟩)<|FO (a0 (⟨w.S,w.f,(dC a)⟩:Wy)) (x:=vB w.f) R R R (⟨dT,Jv (iH A)⟩) R<|qR 0 R<|bO R R R (by simp)<|zM (.x 24 (0+0) 0) R (⟨dT,FF.2 (by show 0<s.length;exact ad)⟩) ?_;have T:(((eY s ((bK c agY).2.getD 0)).set 0 (⟨w.S,w.f,(dC a)⟩:Wy)).set 0 (⟨w.S,cE w.f true b,(dC a)⟩:Wy))[0]?=some (⟨w.S,cE w.f true b,(dC a)⟩:Wy):=aZ ad;refine nM (a0 (⟨w.S,w.f,(dC a)⟩:Wy)) (h':=an _ 24 (some (.arr ((((eY s ((bK c agY).2.getD 0)).set 0 (⟨w.S,w.f,(dC a)⟩:Wy)).set 0 (⟨w.S,cE w.f true b,(dC a)⟩:Wy)).map a0) 3))) R R R (⟨dT,Jv (iH A)⟩) (vX (f:=a0) (l:=(eY s ((bK c agY).2.getD 0)).set 0 (⟨w.S,w.f,(dC a)⟩:Wy)) (k:=0) (x:=(⟨w.S,cE w.f true b,(dC a)⟩:Wy)))<|cg 0 R<| .mk _ (.step (some (24,3,(((eY s ((bK c agY).2.getD 0)).set 0 (⟨w.S,w.f,(dC a)⟩:Wy)).set 0 (⟨w.S,cE w.f true b,(dC a)⟩:Wy)).map a0)) (ee (l:=[(1,vU agY),(2,.v (.string (dC a))),(3,vB b),(4,.ptr 0 0),(8,.ptr 1 0),(9,.ptr 2 0),(10,vB false),(11,vN ((bK c agY).1)),(35,vB ((bK c agY).2.isSome)),(14,.Y 3 ((((eY s ((bK c agY).2.getD 0)).set 0 (⟨w.S,w.f,(dC a)⟩:Wy)).set 0 (⟨w.S,cE w.f true b,(dC a)⟩:Wy)).map a0) false),(44,vB (!((dC a).toList==(⟨#[]⟩:ByteArray).toList)))]) (hp:=[(0,.box [vI c.ways,.Y 1 (c.O.map bX) false]),(1,.box [vI 0,.Y 0 ([]) true]),(2,.box [zU,vB false,.v (.string (⟨#[]⟩:ByteArray))])]) R jb kk) (.refl _))<|qC 0 R<|aW R (LP c ((bK c agY).1) (((eY s ((bK c agY).2.getD 0)).set 0 (⟨w.S,w.f,(dC a)⟩:Wy)).set 0 (⟨w.S,cE w.f true b,(dC a)⟩:Wy)) h q ad (by first|exact ad|(rw[pP ad];exact ad)) (ea (P:=Wy.ok) (ea (P:=Wy.ok) (pQ e.2) ⟨r.S⟩) ⟨r.S⟩))<|zV (.agg [zU,vB false,.v (.string (⟨#[]⟩:ByteArray))]) ?_;rw[Cn t,i,Fe o,dZ (ya E)]
   try rw[lO]
   try rw[lO]
   exact fT R (by simp only[ae,lO];rfl)
  refine o' 0 0 R<|FP<|qS 0 R<|zM (.x 24 (0+0) 0) R (⟨dT,FF.2 (by show 0<s.length;exact ad)⟩) ?_;obtain⟨w,o⟩:∃m,(eY s ((bK c agY).2.getD 0))[0]?=some m:=⟨_,aA ad⟩;have r:=(pQ e.2) w (aB o);refine FO (a0 w) (x:=vB w.f) R R R (⟨dT,Jv (iH o)⟩) R<|qR 0 R<|bO R R R (by simp)<|zM (.x 24 (0+0) 0) R (⟨dT,FF.2 (by show 0<s.length;exact ad)⟩) ?_;have U:((eY s ((bK c agY).2.getD 0)).set 0 (⟨w.S,cE w.f true b,w.data⟩:Wy))[0]?=some (⟨w.S,cE w.f true b,w.data⟩:Wy):=aZ ad;refine nM (a0 w) (h':=an _ 24 (some (.arr (((eY s ((bK c agY).2.getD 0)).set 0 (⟨w.S,cE w.f true b,w.data⟩:Wy)).map a0) 3))) R R R (⟨dT,Jv (iH o)⟩) (vX (f:=a0) (l:=eY s ((bK c agY).2.getD 0)) (k:=0) (x:=(⟨w.S,cE w.f true b,w.data⟩:Wy)))<|cg 0 R<| .mk _ (.step (some (24,3,((eY s ((bK c agY).2.getD 0)).set 0 (⟨w.S,cE w.f true b,w.data⟩:Wy)).map a0)) (ee (l:=[(1,vU agY),(2,.v (.string (dC a))),(3,vB b),(4,.ptr 0 0),(8,.ptr 1 0),(9,.ptr 2 0),(10,vB false),(11,vN ((bK c agY).1)),(35,vB ((bK c agY).2.isSome)),(14,.Y 3 (((eY s ((bK c agY).2.getD 0)).set 0 (⟨w.S,cE w.f true b,w.data⟩:Wy)).map a0) false),(44,vB (!((dC a).toList==(⟨#[]⟩:ByteArray).toList)))]) (hp:=[(0,.box [vI c.ways,.Y 1 (c.O.map bX) false]),(1,.box [vI 0,.Y 0 ([]) true]),(2,.box [zU,vB false,.v (.string (⟨#[]⟩:ByteArray))])]) R jb kk) (.refl _))<|qC 0 R<|aW R (LP c ((bK c agY).1) ((eY s ((bK c agY).2.getD 0)).set 0 (⟨w.S,cE w.f true b,w.data⟩:Wy)) h q ad (by first|exact ad|(rw[pP ad];exact ad)) (ea (P:=Wy.ok) (pQ e.2) ⟨r.S⟩))<|zV (.agg [zU,vB false,.v (.string (⟨#[]⟩:ByteArray))]) ?_;rw[Cn t,i,Fe o,aa (yb E)]
  try rw[lO]
  exact fT R (by simp only[ae,lO];rfl)
 have t:(bK c agY).2.isSome=false:=sU D;obtain⟨s,k⟩:∃m,c.O[((bK c agY).1)]?=some m:=⟨_,aA ad⟩;have e:=h.set s (aB k);have i:=vA k;have n:s.length<=2:=oH (y s (aB k));refine qC 0 R<|zX (bX s) (.k 1 0 (bX s)) R (iH k)<|pO R R<|rV (.agg [zU,vB false,.v (.string (⟨#[]⟩:ByteArray))]) R<|oR 1 R<|rW (vN s.length) R (cD a0 s)<|oR 2 R<|rV (vB (((s.length:Nat):Int)==c.ways)) R<|dm 30 R R<|a1 R<|oR 1 R<|rE 33<|And.intro (by kernel_rfl)<|jk 0 R<|aV R (λj=>?_) (λj=>?_)
 .have H:=mT j
  try have v:(s.length:Int)=c.ways:=sU j
  try have v: ¬(s.length:Int)=c.ways:=sU j
  refine qC 0 R<|rW (vN s.length) R (cD a0 s) ?_;have V:s.length-1<=2:=aL (jT _ _) n;refine zW (vN (s.length-1)) (ap (DA ad n R))<|pO R R<|oR 2 R ?_;obtain⟨g,F⟩:∃m,s[(s.length-1)]?=some m:=⟨_,aA ad⟩;have O:=e.2 g (aB F);refine ja (a0 g) (.k 3 0 (a0 g)) R R (iH F) R<|oR 3 R<|nW (.Y 3 ((s.take (s.length-1)).map a0) false) R (yB (vY a0 s (s.length-1))) g_<|a1 R<|oR 1 R<|rE 47<|And.intro (by kernel_rfl)<|qX 0 R<|rW (vN (s.length-1)) R (vW a0 (s.take (s.length-1)) ad) ?_;have K:(s.length-1)+1<=3:=aD (by have:=n;exact ad) (aC 1);refine rW (vN ((s.length-1)+1)) R (ap (bH K R))<|zF (x:=.X 50 0 0 false) (h':=an _ 50 (some (.arr (([]:List Wy).map a0) 3))) (rfl) (⟨dT,FG.2 ad,by show((((s.length-1)+1):Nat):Int)<=1000000;omega⟩)<|eo (x:=.X 54 0 (s.length-1) false) (h':=an (an _ 50 none) 54 (some (.arr ((s.take (s.length-1)).map a0) 3))) R R (iP a0 ([]:List Wy) (s.take (s.length-1)) ad ad) (⟨by exact ad,by exact ad,tr⟩)<|lv 0 0 R<|FP<|qS 0 R<|zC (tN agY d)<|rV (.agg [vU (ao agY),vB b,.v (.string (dC a))]) R<|rV (.Y 3 ([[vU (ao agY),vB b,.v (.string (dC a))]]) true) R<|zF (x:=.X 63 0 ((s.length-1)+1) false) (h':=an (an _ 54 none) 63 (some (.arr (((s.take (s.length-1))++([(⟨ao agY,b,(dC a)⟩:Wy)])).map a0) 3))) (iP a0 (s.take (s.length-1)) ([(⟨ao agY,b,(dC a)⟩:Wy)]) ad ad) (⟨by exact ad,by exact ad,tr⟩)<| .mk _ (.step (some (63,3,((s.take (s.length-1))++([(⟨ao agY,b,(dC a)⟩:Wy)])).map a0)) (ee (l:=[(4,.ptr 0 0),(8,.ptr 1 0),(9,.ptr 2 0),(10,vB false),(11,vN ((bK c agY).1)),(35,vB ((bK c agY).2.isSome)),(15,.Y 3 ((s.take (s.length-1)).map a0) false),(16,.ptr 30 0),(17,vB (((s.length:Nat):Int)==c.ways)),(75,vB (((s.length:Nat):Int)==c.ways)),(19,.Y 3 (((s.take (s.length-1))++([(⟨ao agY,b,(dC a)⟩:Wy)])).map a0) false)]) (hp:=[(0,.box [vI c.ways,.Y 1 (c.O.map bX) false]),(1,.box [vI 0,.Y 0 ([]) true]),(2,.box [zU,vB false,.v (.string (⟨#[]⟩:ByteArray))]),(30,.box (a0 g))]) R jb kk) (.refl _))<|j4 0 R<|pO R R<|oR 4 R<|rW (vN (s.length-1)) R (vW a0 (s.take (s.length-1)) ad)<|aW R (q1 ((s.take (s.length-1))++([(⟨ao agY,b,(dC a)⟩:Wy)])) (s.length-1) false ad ad (sJ (zD e.2) (sK (P:=Wy.ok) ⟨(dV d)⟩)))<|aW R (LP c ((bK c agY).1) (eY ((s.take (s.length-1))++([(⟨ao agY,b,(dC a)⟩:Wy)])) (s.length-1)) h q ad (by first|exact ad|(rw[pP ad];exact ad)) (pQ (sJ (zD e.2) (sK (P:=Wy.ok) ⟨(dV d)⟩))))<|oR 2 R<|a1 R<|a1 R<|oR 1 R<|rE 77<|And.intro (by kernel_rfl)<|ck 0 R ?_;rw[AR u t,i,aa v];refine fT R ?_;rw[GU _ _ _ ad,j];rw[<-j0,show s.getLast?.getD qE=g from by rw[oX,F];rfl]
  try rfl
 have H:=nA j
 try have v:(s.length:Int)=c.ways:=sU j
 try have v: ¬(s.length:Int)=c.ways:=sU j
 refine qC 0 R<|rW (vN s.length) R (cD a0 s) ?_;have L:s.length+1<=3:=aD n (aC 1);refine rW (vN (s.length+1)) R (ap (bH L R))<|zF (x:=.X 37 0 0 false) (h':=an _ 37 (some (.arr (([]:List Wy).map a0) 3))) (rfl) (⟨dT,FG.2 ad,by show(((s.length+1):Nat):Int)<=1000000;omega⟩)<|eo (x:=.X 41 0 s.length false) (h':=an (an _ 37 none) 41 (some (.arr (s.map a0) 3))) R R (iP a0 ([]:List Wy) s ad ad) (⟨by exact ad,by exact ad,tr⟩)<|lv 0 0 R<|FP<|qS 0 R<|zC (tN agY d)<|rV (.agg [vU (ao agY),vB b,.v (.string (dC a))]) R<|rV (.Y 3 ([[vU (ao agY),vB b,.v (.string (dC a))]]) true) R<|zF (x:=.X 50 0 (s.length+1) false) (h':=an (an _ 41 none) 50 (some (.arr ((s++([(⟨ao agY,b,(dC a)⟩:Wy)])).map a0) 3))) (iP a0 s ([(⟨ao agY,b,(dC a)⟩:Wy)]) ad ad) (⟨by exact ad,by exact ad,tr⟩)<| .mk _ (.step (some (50,3,(s++([(⟨ao agY,b,(dC a)⟩:Wy)])).map a0)) (ee (l:=[(4,.ptr 0 0),(8,.ptr 1 0),(9,.ptr 2 0),(10,vB false),(11,vN ((bK c agY).1)),(35,vB ((bK c agY).2.isSome)),(15,.Y 3 (s.map a0) false),(16,.ptr 30 0),(17,vB (((s.length:Nat):Int)==c.ways)),(75,vB (((s.length:Nat):Int)==c.ways)),(19,.Y 3 ((s++([(⟨ao agY,b,(dC a)⟩:Wy)])).map a0) false)]) (hp:=[(0,.box [vI c.ways,.Y 1 (c.O.map bX) false]),(1,.box [vI 0,.Y 0 ([]) true]),(2,.box [zU,vB false,.v (.string (⟨#[]⟩:ByteArray))]),(30,.box [zU,vB false,.v (.string (⟨#[]⟩:ByteArray))])]) R jb kk) (.refl _))<|j4 0 R<|pO R R<|oR 4 R<|rW (vN s.length) R (cD a0 s)<|aW R (q1 (s++([(⟨ao agY,b,(dC a)⟩:Wy)])) s.length false ad ad (sJ e.2 (sK (P:=Wy.ok) ⟨(dV d)⟩)))<|aW R (LP c ((bK c agY).1) (eY (s++([(⟨ao agY,b,(dC a)⟩:Wy)])) s.length) h q ad (by first|exact ad|(rw[pP ad];exact ad)) (pQ (sJ e.2 (sK (P:=Wy.ok) ⟨(dV d)⟩))))<|oR 2 R<|a1 R<|a1 R<|oR 1 R<|rE 64<|And.intro (by kernel_rfl)<|ck 0 R ?_;rw[AR u t,i,dZ v];refine fT R ?_;rw[GU _ _ _ ad,j]
 try rfl
def Xn{a:Nat}(h:a<=4294967295):IntKind.wrap .u32 ((a:Int)-((ao a:Nat):Int))=((a%16:Nat):Int):=by
 rw[Gn (B:=4294967295) (dV h) R];have:(a+4294967296-ao a)%4294967296=a%16:=by unfold ao;omega
 rw[this]
def Ul{c:Ca}{k j:Nat}{s:List Wy}{x:Wy}(a:gG c=true)(b:c.O[k]?=some s)(d:s[j]?=some x):x.data.size=0\/x.data.size=16:=
 (((jX c k s).1 (((jL c).1 a).2 k s b)).2 j x d).2.2.1
def GV{c:Ca}{a:Nat}(b:ByteArray)(d:(bK c a).2.isSome=false):xL c a b=(c,false):=by
 unfold xL;have g:(bK c a).2=none:=sU d;have e:bK c a=((bK c a).1,none):=by rw[<-g]
 rw[e]
def At{c:Ca}{a:Nat}{s:List Wy}{x:Wy}(b:ByteArray)(k:(bK c a).2.isSome=true)(h:pF c (bK c a).1=s)(d:s[(bK c a).2.getD 0]?=some x):
  xL c a b=if x.data.size=0\/b.size+a%16>16 then(c,false)else(rK c (bK c a).1 (ku (λw=>{w with data:=Fk w.data (a%16) b,f:=true}) (eY s ((bK c a).2.getD 0))),true):=by
 unfold xL;obtain⟨j,g⟩:=FH.1 k;have e:bK c a=((bK c a).1,some j):=by rw[<-g]
 rw[g]at d⊢;have m:(pF c (bK c a).1)[j]?=some x:=by rw[h];exact d
 rw[e];have i:s[j]?=some x:=d;simp only[h,i];rfl
def Rf{α:Type}{l:List α}{k:Nat}{x:α}(h:l[k]?=some x):(eY l k)[0]?=some x:=by rw[Cm h];rfl
abbrev T8(p:Ca×Bool):AV:=.F [.agg (fy p.1 false),vB p.2]
def Um(c:Ca)(a:Nat)(bytes:ByteArray)(i:c.ok)(b:a<=4294967295):bI C0 192 [.agg (fy c false),vU a,.v (.string bytes)] (T8 (xL c a bytes)):=by
 refine eb func192 R ?_;have H:=AQ c a;refine zC (As c a i b)<|aV R (λq=>?_) (λq=>?_)
 .have h:(bK c a).2.isSome=false:=sU q;refine jj 0 R ?_;rw[GV bytes h];exact fT R R
 have h:(bK c a).2.isSome=true:=sU q;obtain⟨v,G,u,n⟩:=pR h;obtain⟨J,K,N,M,y⟩:=kJ v;obtain⟨s,e⟩:∃k,c.O[((bK c a).1)]?=some k:=⟨_,aA ad⟩;have d:=i.set s (aB e);have j:=vA e;rw[j]at n;have L:s.length<=2:=oH (y s (aB e));have I:=pP n;refine qC 0 R<|zX (bX s) (.k 1 0 (bX s)) R (iH e) ?_;obtain⟨x,g⟩:∃k,s[((bK c a).2.getD 0)]?=some k:=⟨_,aA ad⟩;have P:=d.2 x (aB g);have Q:=Ul v e g;refine zX (a0 x) (.k 3 0 (a0 x)) R (iH g)<|aW R (tN a b) ?_;have t:a%16<=15:=oT;refine rW _ R (ap (Xn b))<|zW _ (ap (bH t R))<|zV (vB (x.data.toList==(⟨#[]⟩:ByteArray).toList))<|gn (x:=vN bytes.size) R id R ?_;have S:16-(a%16)<=16:=aL (jT _ _) (aC 16);refine aw (x:=vN (16-(a%16))) R id (ap (DA ad (aC 16) R))<|aw R b9 (ak (fq _ _))<|zN R (by simp)<|zB R (λr=>?_) (λr=>?_)
 .have E:(x.data.size=0\/bytes.size>16-a%16):=by have z:=r;rw[jr]at z;simp only[ae,dE,aY,dP,mA]at z;omega
  rw[At bytes h j g,aa ad];exact fT R R
 have E: ¬(x.data.size=0\/bytes.size>16-a%16):=by have z:=r;rw[jr]at z;simp only[ae,dE,aY,dP,mA]at z;omega
 have F:x.data.size=16:=oT;have D:bytes.size<=16-a%16:=oT;refine zX (bX s) (.k 1 0 (bX s)) R (iH e)<|zH R ((VM s ((bK c a).2.getD 0) false ad ad d.2).Zi _ _ R) ?_;rintro _ _ ⟨rfl,rfl⟩;refine a7<|oR 3 R<|nW (.v (.string (x.data.extract 0 (a%16)))) R R (by refine⟨?_,?_,?_⟩<;>(first|exact aG _|decide|(apply FG.2;exact ad)))<|oR 1 rfl<|nW (.v (.string ((x.data.extract 0 (a%16))++bytes))) rfl rfl (by show(_:Int)<=9223372036854775807;simp[kH,dA];omega)<|oR 3 rfl<|rV (vN bytes.size) rfl ?_;have C:(a%16)+bytes.size<=31:=aD t (oT:bytes.size<=16);refine rW _ R (ap (bH C R))<|nW (.v (.string (x.data.extract ((a%16)+bytes.size) x.data.size))) R R (by refine⟨?_,?_,?_⟩<;>(first|exact aG _|decide|(apply FG.2;exact ad)))<|nW (.v (.string (((x.data.extract 0 (a%16))++bytes)++(x.data.extract ((a%16)+bytes.size) x.data.size)))) rfl rfl (by show(_:Int)<=9223372036854775807;simp[kH,dA];omega)<|nW (.x 46 (0+0) 0) rfl rfl (⟨dT,FF.2 (by show 0<s.length;exact ad)⟩)<|oR 1 rfl ?_;obtain⟨w,m⟩:∃k,(eY s ((bK c a).2.getD 0))[0]?=some k:=⟨_,aA ad⟩;have o:=(pQ d.2) w (aB m);have B:w=x:=fj (m.symm.trans (Rf g));have A:((eY s ((bK c a).2.getD 0)).set 0 (⟨w.S,w.f,((x.data.extract 0 (a%16))++bytes)++(x.data.extract ((a%16)+bytes.size) x.data.size)⟩:Wy))[0]?=some (⟨w.S,w.f,((x.data.extract 0 (a%16))++bytes)++(x.data.extract ((a%16)+bytes.size) x.data.size)⟩:Wy):=aZ ad;refine nM (a0 w) (h':=an _ 46 (some (.arr (((eY s ((bK c a).2.getD 0)).set 0 (⟨w.S,w.f,((x.data.extract 0 (a%16))++bytes)++(x.data.extract ((a%16)+bytes.size) x.data.size)⟩:Wy)).map a0) 3))) R R R (⟨dT,Jv (iH m)⟩) (vX (f:=a0) (l:=eY s ((bK c a).2.getD 0)) (k:=0) (x:=(⟨w.S,w.f,((x.data.extract 0 (a%16))++bytes)++(x.data.extract ((a%16)+bytes.size) x.data.size)⟩:Wy)))<|rE 64<|xr 0 0 R<|FP<|qS 0 R<|zM (.x 46 (0+0) 0) R (⟨dT,FF.2 (by show 0<s.length;exact ad)⟩) ?_;have O:(((eY s ((bK c a).2.getD 0)).set 0 (⟨w.S,w.f,((x.data.extract 0 (a%16))++bytes)++(x.data.extract ((a%16)+bytes.size) x.data.size)⟩:Wy)).set 0 (⟨w.S,true,((x.data.extract 0 (a%16))++bytes)++(x.data.extract ((a%16)+bytes.size) x.data.size)⟩:Wy))[0]?=some (⟨w.S,true,((x.data.extract 0 (a%16))++bytes)++(x.data.extract ((a%16)+bytes.size) x.data.size)⟩:Wy):=aZ ad
 refine nM (a0 (⟨w.S,w.f,((x.data.extract 0 (a%16))++bytes)++(x.data.extract ((a%16)+bytes.size) x.data.size)⟩:Wy)) (h':=an _ 46 (some (.arr ((((eY s ((bK c a).2.getD 0)).set 0 (⟨w.S,w.f,((x.data.extract 0 (a%16))++bytes)++(x.data.extract ((a%16)+bytes.size) x.data.size)⟩:Wy)).set 0 (⟨w.S,true,((x.data.extract 0 (a%16))++bytes)++(x.data.extract ((a%16)+bytes.size) x.data.size)⟩:Wy)).map a0) 3))) R R R (⟨dT,Jv (iH A)⟩) (vX (f:=a0) (l:=(eY s ((bK c a).2.getD 0)).set 0 (⟨w.S,w.f,((x.data.extract 0 (a%16))++bytes)++(x.data.extract ((a%16)+bytes.size) x.data.size)⟩:Wy)) (k:=0) (x:=(⟨w.S,true,((x.data.extract 0 (a%16))++bytes)++(x.data.extract ((a%16)+bytes.size) x.data.size)⟩:Wy)))<|cg 0 R<| .mk _ (.step (some (46,3,(((eY s ((bK c a).2.getD 0)).set 0 (⟨w.S,w.f,((x.data.extract 0 (a%16))++bytes)++(x.data.extract ((a%16)+bytes.size) x.data.size)⟩:Wy)).set 0 (⟨w.S,true,((x.data.extract 0 (a%16))++bytes)++(x.data.extract ((a%16)+bytes.size) x.data.size)⟩:Wy)).map a0)) (ee (l:=[(3,.ptr 0 0),(6,.ptr 1 0),(7,vB false),(8,vN ((bK c a).1)),(22,vB (!((bK c a).2.isSome))),(46,vB (cE (x.data.toList==(⟨#[]⟩:ByteArray).toList) true (decide (bytes.size>(16-(a%16)))))),(13,.Y 3 ((((eY s ((bK c a).2.getD 0)).set 0 (⟨w.S,w.f,((x.data.extract 0 (a%16))++bytes)++(x.data.extract ((a%16)+bytes.size) x.data.size)⟩:Wy)).set 0 (⟨w.S,true,((x.data.extract 0 (a%16))++bytes)++(x.data.extract ((a%16)+bytes.size) x.data.size)⟩:Wy)).map a0) false)]) (hp:=[(0,.box [vI c.ways,.Y 1 (c.O.map bX) false]),(1,.box [vI 0,.Y 0 ([]) true])]) R jb kk) (.refl _))<|qC 0 R<|zC (LP c ((bK c a).1) (((eY s ((bK c a).2.getD 0)).set 0 (⟨w.S,w.f,((x.data.extract 0 (a%16))++bytes)++(x.data.extract ((a%16)+bytes.size) x.data.size)⟩:Wy)).set 0 (⟨w.S,true,((x.data.extract 0 (a%16))++bytes)++(x.data.extract ((a%16)+bytes.size) x.data.size)⟩:Wy)) i u ad (by first|exact ad|(rw[pP ad];exact ad)) (ea (P:=Wy.ok) (ea (P:=Wy.ok) (pQ d.2) ⟨o.S⟩) ⟨o.S⟩)) ?_;subst B;rw[At bytes h j g,dZ ad,Fe m];exact fT R (by first|rfl|(simp only[lO];rfl))
def OP{α:Type}{f:α->α}{l:List α}{k:Nat}{x:α}(h:l[k]?=some x):l.modify k f=l.set k (f x):=by
 apply dD;intro i;rw[oD,mV];obtain⟨a,rfl⟩:=Em.1 h;by_cases e:k=i
 .subst e;simp[a]
 simp[e]
def Dy{c:Ca}{agY:Nat}{s:List Wy}(b:(bK c agY).2.isSome=true)(d:pF c (bK c agY).1=s):wB c agY=rK c (bK c agY).1 (s.modify ((bK c agY).2.getD 0) λw=>{w with f:=false}):=by
 unfold wB;obtain⟨j,a⟩:=FH.1 b;have e:bK c agY=((bK c agY).1,some j):=by rw[<-a]
 rw[a,e];simp only[d];rfl
def Dz{c:Ca}{agY:Nat}(a:(bK c agY).2.isSome=false):wB c agY=c:=by
 unfold wB;have b:(bK c agY).2=none:=sU a;have e:bK c agY=((bK c agY).1,none):=by rw[<-b]
 rw[e]
def Iu(c:Ca)(agY:Nat)(a:c.ok)(e:agY<=4294967295):bI C0 151 [.agg (fy c false),vU agY] (.agg (fy (wB c agY) false)):=by
 refine eb func151 R ?_;have u:=AQ c agY;refine zC (As c agY a e)<|aV R (λj=>?_) (λj=>?_)
 .have d:(bK c agY).2.isSome=false:=sU j;refine jj 0 R ?_;rw[Dz d];exact dK R ⟨tr,tr,tr⟩ R R
 have d:(bK c agY).2.isSome=true:=sU j;obtain⟨r,t,n,g⟩:=pR d;obtain⟨w,y,B,A,o⟩:=kJ r;obtain⟨s,b⟩:∃m,c.O[((bK c agY).1)]?=some m:=⟨_,aA ad⟩;have i:=a.set s (aB b);have h:=vA b;rw[h]at g;have z:s.length<=2:=oH (o s (aB b));have v:=pP g;refine qC 0 R<|zX (bX s) (.k 1 0 (bX s)) R (iH b)<|rW _ R (cD a0 s)<|zF (x:=.X 20 0 s.length false) (h':=an _ 20 (some (.arr ((List.replicate s.length qE).map a0) 3))) (Ri (fH (f:=a0) (a:=qE)).symm) (⟨aG _,FG.2 ad,by show((s.length:Nat):Int)<=1000000;omega⟩)<|zX (bX s) (.k 1 0 (bX s)) R (iH b)<|eo (x:=vI ((min ((s.map a0).length) (s.length):Nat):Int)) (h':=an _ 20 (some (.arr (s.map a0) 3))) R R (II (DX a0 ((List.replicate s.length qE).map a0) s ad ad)) (⟨by exact ad,tr⟩)<|lv 0 0 R<|FP<|qS 0 R<|zM (.x 20 (0+((bK c agY).2.getD 0)) 0) R (⟨aG _,FF.2 (by show((bK c agY).2.getD 0)<s.length;exact ad)⟩) ?_;obtain⟨x,k⟩:∃m,s[((bK c agY).2.getD 0)]?=some m:=⟨_,aA ad⟩;have q:=i.2 x (aB k);have C:(s.set ((bK c agY).2.getD 0) (⟨x.S,false,x.data⟩:Wy))[((bK c agY).2.getD 0)]?=some (⟨x.S,false,x.data⟩:Wy):=aZ ad;refine nM (a0 x) (h':=an _ 20 (some (.arr ((s.set ((bK c agY).2.getD 0) (⟨x.S,false,x.data⟩:Wy)).map a0) 3))) R R R (⟨aG _,Jv (iH k)⟩) (vX (f:=a0) (l:=s) (k:=((bK c agY).2.getD 0)) (x:=(⟨x.S,false,x.data⟩:Wy)))<|cg 0 R<| .mk _ (.step (some (20,3,(s.set ((bK c agY).2.getD 0) (⟨x.S,false,x.data⟩:Wy)).map a0)) (ee (l:=[(2,.ptr 0 0),(4,.ptr 1 0),(5,vN ((bK c agY).1)),(17,vB (!((bK c agY).2.isSome))),(8,.Y 3 ((s.set ((bK c agY).2.getD 0) (⟨x.S,false,x.data⟩:Wy)).map a0) false)]) (hp:=[(0,.box [vI c.ways,.Y 1 (c.O.map bX) false]),(1,.box [vI 0,.Y 0 ([]) true])]) R jb kk) (.refl _))<|qC 0 R<|zC (LP c ((bK c agY).1) (s.set ((bK c agY).2.getD 0) (⟨x.S,false,x.data⟩:Wy)) a n ad ad (ea (P:=Wy.ok) i.2 ⟨q.S⟩)) ?_;rw[Dy d h,OP k];exact dK R ⟨tr,tr,tr⟩ R R
section
variable {α:Type}{p:α->Bool}
def Rg{l:List α}{k:Nat}{x:α}(b:l[k]?=some x)(a:p x=false)(h:(l.take k).find? p=none):(l.take (k+1)).find? p=none:=by
 rw[bW,b,iZ,h];simp[a]
def Rh{l:List α}{k:Nat}{x:α}(a:l[k]?=some x)(hp:p x=true)(h:(l.take k).find? p=none):l.find? p=some x:=by
 have e:l=l.take (k+1)++l.drop (k+1):=(j' _ _).symm;rw[e,iZ,bW,a,iZ,h];simp[hp]
def Un{l:List α}{k:Nat}(a:l.length<=k)(h:(l.take k).find? p=none):l.find? p=none:=by rwa [aN a]at h
def Xo{L:List (List α)}{k:Nat}{s:List α}(b:L[k]?=some s)(a:s.find? p=none)(h:(L.take k).flatten.find? p=none):(L.take (k+1)).flatten.find? p=none:=by
 rw[bW,b,p',iZ,h];simpa using a
def Xp{L:List (List α)}{k:Nat}{s:List α}{x:α}(b:L[k]?=some s)(a:s.find? p=some x)(h:(L.take k).flatten.find? p=none):L.flatten.find? p=some x:=by
 have e:L=L.take (k+1)++L.drop (k+1):=(j' _ _).symm;rw[e,p',iZ,bW,b,p',iZ,h];simp[a]
end
abbrev S8(o:Option Wy):AV:=.F [.agg (a0 (o.getD qE)),vB o.isSome]
def q0(c:Ca)(h:c.ok):bI C0 150 [.agg (fy c false)] (S8 (cR c)):=by
 refine bc func150 R<|zC (AW c false h)<|zB R (λi=>?_) (λi=>?_)
 .have a:gG c=false:=sU i;refine zV (.agg [.v (.int .u32 0),vB false,.v (.string (⟨#[]⟩:ByteArray))]) ?_;rw[show cR c=none from by unfold cR;rw[dZ (by rw[a];decide)]];exact fT R R
 have a:gG c=true:=sU i;obtain⟨E,F,I,H,y⟩:=kJ a;refine zW _ (cD bX c.O)<|dk (κ:=Nat) (λk=>⟨a6 [(2,.ptr 1 0),(10,vB (!(gG c))),(13,.Y 1 (c.O.map bX) false),(14,vN c.O.length),(15,vN k)],aq [(0,.box [vI c.ways,.Y 1 (c.O.map bX) false]),(1,.box [.v (.int .u32 0),vB false,.v (.string (⟨#[]⟩:ByteArray))])],10⟩) (λk=>k<=c.O.length/\(c.O.take k).flatten.find? (·.f)=none) (λk=>c.O.length-k) 0 (λs=>s) (au (λs=>s) wT wH R) (⟨aE _,R⟩) ?_;intro k e;have D:k<=c.O.length:=e.1;have v:k<=1000000:=oT;refine b0 (ak (bl _ _)) (λm=>?_) (λm=>?_)
 .have r:=ax m;obtain⟨s,b⟩:∃q,c.O[k]?=some q:=⟨_,aA ad⟩;have w:=h.set s (aB b);have G:s.length<=2:=oH (y s (aB b));refine zX (bX s) (.k 1 0 (bX s)) R (iH b)<|zW _ (cD a0 s)<|dk (κ:=Nat) (λj=>⟨a6 [(2,.ptr 1 0),(10,vB (!(gG c))),(13,.Y 1 (c.O.map bX) false),(14,vN c.O.length),(15,vN k),(16,vB (decide (k<c.O.length))),(17,.k 1 0 (bX s)),(18,.Y 3 (s.map a0) false),(5,.Y 3 (s.map a0) false),(19,.Y 3 (s.map a0) false),(20,vN s.length),(21,vN j)],aq [(0,.box [vI c.ways,.Y 1 (c.O.map bX) false]),(1,.box [.v (.int .u32 0),vB false,.v (.string (⟨#[]⟩:ByteArray))])],17⟩) (λj=>j<=s.length/\(s.take j).find? (·.f)=none) (λj=>s.length-j) 0 (λs=>s) (au (λs=>s) wT wH R) (⟨aE _,R⟩) ?_;intro j d;have C:j<=s.length:=d.1;have u:j<=1000000:=oT;refine b0 (ak (bl _ _)) (λn=>?_) (λn=>?_)
  .have t:=ax n;obtain⟨x,g⟩:∃q,s[j]?=some q:=⟨_,aA ad⟩;have J:=w.2 x (aB g);refine zX (a0 x) (.k 3 0 (a0 x)) R (iH g)<|zB R (λo=>?_) (λo=>?_)
   .rw[show cR c=some x from by unfold cR;rw[aa a];exact Xp b (Rh g o d.2) e.2];exact fT R R
   skip
   have A:j+1<=1000001:=aD u (aC 1);refine zW _ (ap (bH A R)) ?_;refine⟨j+1,λs=>s,au _ wT wH R,⟨oT,Rg g o d.2⟩,by show s.length-(j+1)<s.length-j;omega⟩
  have t:=aF n;have B:k+1<=1000001:=aD v (aC 1);refine zW _ (ap (bH B R)) ?_;refine⟨k+1,λs=>s,au _ wT wH R,⟨oT,Xo b (Un ad d.2) e.2⟩,by show c.O.length-(k+1)<c.O.length-k;omega⟩
 have r:=aF m;refine zV (.agg [.v (.int .u32 0),vB false,.v (.string (⟨#[]⟩:ByteArray))]) ?_;rw[show cR c=none from by unfold cR;rw[aa a];have z:=e.2;rwa [aN ad]at z];exact fT R R
def Kn(m:ByteArray)(p:Pt):(BE m p).size=m.size:=by
 unfold BE;split
 .simp only[kH,dA];omega
 rfl
def iY(m:ByteArray)(l:List Pt):(rP m l).size=m.size:=by
 unfold rP
 induction l generalizing m with
 |nil=>rfl
 |cons p l ih=>rw[mK,ih,Kn]
def GS{m:ByteArray}{l:List Pt}{k:Nat}{x:Pt}(a:l[k]?=some x):rP m (l.take (k+1))=BE (rP m (l.take k)) x:=by
 unfold rP;rw[bW,a];simp
def Xl(s:ByteArray):aS s=s.data.toList.map λb=>[AV.v (.int .u8 (b.toNat:Int))]:=rfl
def Uh(a b:ByteArray):(a++b).data.toList=a.data.toList++b.data.toList:=by simp
def Ui(a:ByteArray)(i j:Nat):(a.extract i j).data.toList=(a.data.toList.take j).drop i:=by
 rw[ByteArray.data_extract,nY,List.extract_eq_take_drop,List.drop_take]
def QW{m:ByteArray}{p:Pt}{n:Nat}(h:p.W<m.size)(c:n=m.size-p.W):(aS m).take (0+p.W)++(aS p.data).take (min (aS p.data).length n)++(aS m).drop (0+p.W+min (aS p.data).length n)=aS (BE m p):=by
 subst c;unfold BE;rw[aa h,bJ,qV];simp only[Xl,Uh,Ui,dH,eO,kM,bS];have a:(m.data.toList.map λb=>[AV.v (.int .u8 (b.toNat:Int))]).length=m.size:=by rw[aH];exact cV
 rw[<-a,cH]
def ON{m:ByteArray}{p:Pt}(h: ¬p.W<m.size):BE m p=m:=dZ h
def Nc(m:ByteArray)(n:Nat)(h:m.size<=n):gU (List.take n (List.drop 0 (aS m)))=some m.data.toList:=by
 rw[bS,aN (by rw[qV];exact h)];exact lN _
def QX(m:ByteArray)(l:List Pt)(e:Bool)(j:m.size<=1000000)(w:l.length<=1000000)(t:∀x∈l,x.ok):bI C0 126 [.v (.string m),.Y 2 (l.map ay) e] (.v (.string (rP m l))):=by
 refine eb func126 R<|zF (x:=.X 2 0 m.size false) (h':=an _ 2 (some (.arr (aS m) 1))) (rfl) ((by show m.size<=1000000;exact j))<|zW (vN l.length) (cD ay l)<|dk (κ:=Nat) (λk=>⟨a6 [(4,.v (.string (⟨#[]⟩:ByteArray))),(5,.X 2 0 m.size false),(10,.Y 2 (l.map ay) e),(11,vN l.length),(12,vN k)],aq [(2,.arr (aS (rP m (l.take k))) 1)],7⟩) (λk=>k<=l.length) (λk=>l.length-k) 0 (λs=>s) (au (λs=>s) wT wH R) (aE _) ?_;intro k r;have v:k<=l.length:=r;have b:k<=1000000:=oT;refine zW (vB (decide (k<l.length))) (ak (bl _ _))<|zB R (λc=>?_) (λc=>?_)
 .have g:=ax c;obtain⟨x,a⟩:∃u,l[k]?=some u:=⟨_,aA ad⟩;have n:=t x (aB a);refine zX (ay x) (.k 2 0 (ay x)) R (iH a)<|zW (.v (.int .u64 ((x.W:Nat):Int))) (ap (nJ n.W R))<|rV (vN m.size) R<|rW (.v (.int .u64 ((m.size:Nat):Int))) R (ap (nJ j R))<|zW (vB (decide (x.W<m.size))) (ak (bl _ _))<|aV R (λd=>?_) (λd=>?_)
  .have h:=ax d;refine zR<|zM (.X 2 (0+x.W) (m.size-x.W) false) (LR (by first|rfl|omega) (by simp only[Option.getD];omega)) g_ ?_;have i:x.W<(rP m (l.take k)).size:=by rw[iY];omega
   refine zF (x:=vI ((min (aS x.data).length (m.size-x.W):Nat):Int)) (h':=an _ 2 (some (.arr (aS (rP m (l.take (k+1)))) 1))) (II (by rw[GS a];exact QW i (by rw[iY]))) (⟨by show 0+x.W+(m.size-x.W)<=(aS (rP m (l.take k))).length;rw[qV,iY];omega,tr⟩) ?_;have o:k+1<=1000001:=aD b (aC 1);refine zW (vN (k+1)) (ap (bH o R)) ?_;refine⟨k+1,λs=>s,au _ wT wH R,oT,by show l.length-(k+1)<l.length-k;omega⟩
  have h:=aF d;have q:k+1<=1000001:=aD b (aC 1);refine qC 0 R<|zW (vN (k+1)) (ap (bH q R)) ?_;refine⟨k+1,λs=>s,au _ wT ⟨⟨R,(am (λz=>some (a'.arr (aS z) 1)) (show rP m (l.take k)=rP m (l.take (k+1))from by rw[GS a,ON (by rw[iY];omega)])),R⟩,tr⟩ R,oT,by show l.length-(k+1)<l.length-k;omega⟩
 have g:=aF c;refine SV ((rP m (l.take k)).data.toList) R R R ((by show 0+m.size<=(aS (rP m (l.take k))).length;rw[qV,iY];omega)) (Nc _ _ (by rw[iY];exact aC _))<|cg 0 R ?_;exact fT R (by rw[aN (oT:l.length<=k)];rfl)
def AO{q:List bp}{k:Nat}{x:bp}(a:q[k]?=some x)(h:x.kind=4):fP (q.take k)++[⟨x.S,x.data⟩]=fP (q.take (k+1)):=by
 unfold fP;rw[bW,a];simp[mL,h]
def Fb{q:List bp}{k:Nat}{x:bp}(a:q[k]?=some x)(h: ¬x.kind=4):fP (q.take k)=fP (q.take (k+1)):=by
 unfold fP;rw[bW,a];simp[mL,h]
def Ko(q:List bp):(fP q).length<=q.length:=by unfold fP;rw[aH];exact List.length_filter_le _ _
def QY{q:List bp}(h:∀x∈q,x.ok):∀x∈fP q,x.ok:=λx a=>by
 unfold fP at a;obtain⟨y,b,rfl⟩:=pG.1 a;exact⟨(h y (List.mem_filter.1 b).1).S⟩
def Nd(m:ByteArray)(c:m.size<=1000000):bI C0 126 [.v (.string m),.Y 0 [] true] (.v (.string m)):=by
 refine eb func126 R<|zF (x:=.X 2 0 m.size false) (h':=an _ 2 (some (.arr (aS m) 1))) (rfl) ((by show m.size<=1000000;exact c))<|zV (vI 0)<|dk (κ:=Unit) (λa=>⟨a6 [(5,.X 2 0 m.size false),(10,.Y 0 ([]) true),(11,vI 0),(12,vI 0)],aq [(2,.arr (aS m) 1)],7⟩) (λa=>True) (λa=>0) () (λs=>s) (au (λs=>s) wT wH R) tr ?_;intro a _;refine de (decide (0<0)) (λb=>by simp at b) (λ_=>?_);refine SV (m.data.toList) R R R ((by show 0+m.size<=(aS m).length;rw[qV];omega)) (Nc _ _ (aC _))<|cg 0 R ?_;exact fT R R
def QZ(q:List bp)(m:ByteArray)(h:Bool)(t:m.size<=1000000)(F:q.length<=900000)(v:∀x∈q,x.ok):bI C0 204 [.Y 4 (q.map bv) h,.v (.string m)] (.v (.string (jZ q m))):=by
 refine eb func204 R<|zW _ (cD bv q)<|dk (κ:=Nat×Bool) (λc=>match c with|(k,false)=>⟨a6 [(1,.v (.string m)),(4,.v (.string (⟨#[]⟩:ByteArray))),(8,.Y 4 (q.map bv) h),(9,vN q.length),(10,vN k),(5,.Y 0 ([]) true)],aq [],6⟩|(k,true)=>⟨a6 [(1,.v (.string m)),(4,.v (.string (⟨#[]⟩:ByteArray))),(8,.Y 4 (q.map bv) h),(9,vN q.length),(10,vN k),(5,.X 5 0 ((fP (q.take k)).length) false)],aq [(5,.arr ((fP (q.take k)).map ay) 2)],6⟩) (λc=>match c with|(k,false)=>(k<=q.length/\fP (q.take k)=[])|(k,true)=>(k<=q.length)) (λc=>q.length-c.1) (0,false) (λs=>s) (au (λs=>s) wT tr R) (⟨aE _,(show fP (q.take 0)=[]from R)⟩) ?_;intro c C;obtain⟨k,A⟩:=c;cases A
 all_goals
  have e:=C
  first|have u:k<=q.length:=e.1|have u:k<=q.length:=e
  have g:k<=1000000:=oT
  first|have d:fP (q.take k)=[]:=e.2|(have B:(fP (q.take k)).length<=900000:=(by have:=Ko (q.take k);rw[aM]at this;omega))
  refine b0 (ak (bl _ _)) (λj=>?_) (λj=>?_)
  .have o:=ax j;obtain⟨x,b⟩:∃D,q[k]?=some D:=⟨_,aA ad⟩;have E:=v x (aB b);refine zX (bv x) (.k 4 0 (bv x)) R (iH b)<|de (x.kind==4) (λn=>?_) (λn=>?_)
   .have a:=mT n;refine rV (.agg [vU x.S,.v (.string x.data)]) R<|rV (.Y 2 ([[vU x.S,.v (.string x.data)]]) true) R ?_
    first|refine zF (x:=.X 21 0 1 false) (h':=an _ 21 (some (.arr (([(⟨x.S,x.data⟩:Pt)]).map ay) 2))) (Iw ad) (⟨R,by exact ad,by exact ad,tr⟩) ?_|refine zF (x:=.X 21 0 ((fP (q.take k)).length+1) false) (h':=an (an _ 5 none) 21 (some (.arr (((fP (q.take k))++([(⟨x.S,x.data⟩:Pt)])).map ay) 2))) (iP ay (fP (q.take k)) ([(⟨x.S,x.data⟩:Pt)]) ad ad) (⟨by exact ad,by exact ad,tr⟩) ?_
    have w:k+1<=1000001:=aD g (aC 1);refine zW _ (ap (bH w R)) ?_
    first|(refine⟨(k+1,true),λi=>match i with|5=>21|i=>i,au _ ⟨⟨R,R⟩,⟨R,R⟩,⟨R,R⟩,⟨R,R⟩,⟨R,R⟩,⟨(show AV.X 21 0 (1) false=AV.X 21 0 (fP (q.take (k+1))).length false from by rw[<-(show [(⟨x.S,x.data⟩:Pt)]=fP (q.take (k+1))from(by rw[<-(AO b a),d];rfl))];first|done|rfl|(congr 1<;>(first|exact ad|simp))),rfl⟩,trivial⟩ ⟨⟨rfl,(am (λz:List Pt=>some (a'.arr (z.map ay) 2)) (show [(⟨x.S,x.data⟩:Pt)]=fP (q.take (k+1))from(by rw[<-(AO b a),d];rfl))),R⟩,tr⟩ R,oT,by show q.length-(k+1)<q.length-k;omega⟩)|(refine⟨(k+1,true),λi=>match i with|5=>21|i=>i,au _ ⟨⟨R,R⟩,⟨R,R⟩,⟨R,R⟩,⟨R,R⟩,⟨R,R⟩,⟨(show AV.X 21 0 ((fP (q.take k)).length+1) false=AV.X 21 0 (fP (q.take (k+1))).length false from by rw[<-(show(fP (q.take k))++([(⟨x.S,x.data⟩:Pt)])=fP (q.take (k+1))from AO b a)];first|done|rfl|(congr 1<;>(first|exact ad|simp))),rfl⟩,trivial⟩ ⟨⟨rfl,(am (λz:List Pt=>some (a'.arr (z.map ay) 2)) (show(fP (q.take k))++([(⟨x.S,x.data⟩:Pt)])=fP (q.take (k+1))from AO b a)),R⟩,tr⟩ R,oT,by show q.length-(k+1)<q.length-k;omega⟩)
   have a:=nA n;have y:k+1<=1000001:=aD g (aC 1);refine zW _ (ap (bH y R)) ?_
   first|(refine⟨(k+1,false),λi=>i,au _ wT tr R,⟨oT,(by rw[<-(Fb b a)];exact d)⟩,by show q.length-(k+1)<q.length-k;omega⟩)|(refine⟨(k+1,true),λi=>i,au _ ⟨⟨R,R⟩,⟨R,R⟩,⟨R,R⟩,⟨R,R⟩,⟨R,R⟩,⟨(am (λz:List Pt=>AV.X 5 0 z.length false) (Fb b a)),R⟩,tr⟩ ⟨⟨R,(am (λz:List Pt=>some (a'.arr (z.map ay) 2)) (Fb b a)),R⟩,tr⟩ R,oT,by show q.length-(k+1)<q.length-k;omega⟩)
  have o:=aF j
  first|refine zC (Nd m (t)) ?_|(refine zL (x:=.v (.string (rP m (fP (q.take k))))) R (.inr ⟨R,⟨tr,(by show 0+((fP (q.take k)).length)<=((fP (q.take k)).map ay).length;exact ad),tr⟩⟩) ((show bI C0 _ [_,.Y 2 (List.take ((fP (q.take k)).length) (List.drop 0 ((fP (q.take k)).map ay))) false] _ from by rw[jW ay (fP (q.take k)) ad];exact QX m (fP (q.take k)) false (t) (by have:=Ko (q.take k);rw[aM]at this;omega) (QY (zD v)))) ?_)
  have r:jZ q m=rP m (fP (q.take k)):=by unfold jZ;rw[aN ad]
  first|rw[r,d]|rw[r]
  exact fT rfl rfl
def Xm(w:Wy):Pt:=⟨w.S,w.data⟩
def gV(c:Ca)(k:Nat):List Pt:=(c.O.take k).flatten.map Xm
def gA(c:Ca)(k:Nat)(s:List Wy)(j:Nat):List Pt:=gV c k++(s.take j).map Xm
def tL{c:Ca}{k j:Nat}{s:List Wy}{x:Wy}(a:s[j]?=some x):gA c k s j++[⟨x.S,x.data⟩]=gA c k s (j+1):=by
 unfold gA;rw[bW,a];simp[Xm]
def yA{c:Ca}{k j:Nat}{s:List Wy}(b:c.O[k]?=some s)(a:s.length<=j):gA c k s j=gV c (k+1):=by
 unfold gA gV;rw[aN a,bW,b];simp
def BD(c:Ca)(k:Nat)(s:List Wy):gV c k=gA c k s 0:=by unfold gA;simp
def Fc{c:Ca}{k:Nat}(h:c.O.length<=k):gV c k=LV c:=by unfold gV LV;rw[aN h];rfl
theorem Nf{α:Type}{B:Nat}:∀(L:List (List α)),(∀s∈L,s.length<=B)->L.flatten.length<=L.length*B
 |[],_=>by simp
 |s::L,h=>by
  have b:=h s ce;have c:=Nf L λt a=>h t (bY _ a);simp only[mU,aU,bN,cG,lD];omega
def Is{c:Ca}{k:Nat}(d:c.O.length<=4)(a:∀s∈c.O,s.length<=2):(gV c k).length<=8:=by
 unfold gV;rw[aH];have:=Nf (B:=2) (c.O.take k) λs b=>a s (cQ b);rw[aM]at this;omega
def Kq{c:Ca}{k j:Nat}{s:List Wy}(b:c.O.length<=4)(a:∀s∈c.O,s.length<=2)(d:s.length<=2):(gA c k s j).length<=10:=by
 unfold gA;have:=Is (k:=k) b a;rw[aU,aH,aM];omega
def Uj{c:Ca}(h:∀s∈c.O,∀x∈s,x.ok)(k:Nat):∀x∈gV c k,x.ok:=λx d=>by
 obtain⟨y,a,rfl⟩:=pG.1 d;obtain⟨s,b,a⟩:=List.mem_flatten.1 a;exact⟨(h s (cQ b) y a).S⟩
def x'(c:Ca)(q:List bp)(m:ByteArray)(n:Bool)(A:c.ok)(r:c.O.length<=4)(e:∀s∈c.O,s.length<=2)(D:m.size<=1000000)(W:q.length<=900000)(V:∀x∈q,x.ok):bI C0 202 [.agg (fy c false),.Y 4 (q.map bv) n,.v (.string m)] (.v (.string (Ct c q m))):=by
 refine eb func202 R<|zW (vN c.O.length) (cD bX c.O)<|dk (κ:=Nat×Bool) (λa=>match a with|(k,false)=>⟨a6 [(1,.Y 4 (q.map bv) n),(2,.v (.string m)),(6,.v (.string (⟨#[]⟩:ByteArray))),(13,.Y 1 (c.O.map bX) false),(14,vN c.O.length),(15,vN k),(7,.Y 0 ([]) true)],aq [(0,.box [vI c.ways,.Y 1 (c.O.map bX) false])],8⟩|(k,true)=>⟨a6 [(1,.Y 4 (q.map bv) n),(2,.v (.string m)),(6,.v (.string (⟨#[]⟩:ByteArray))),(13,.Y 1 (c.O.map bX) false),(14,vN c.O.length),(15,vN k),(7,.X 7 0 ((gV c k).length) false)],aq [(0,.box [vI c.ways,.Y 1 (c.O.map bX) false]),(7,.arr ((gV c k).map ay) 2)],8⟩) (λa=>match a with|(k,false)=>(k<=c.O.length/\gV c k=[])|(k,true)=>(k<=c.O.length)) (λa=>c.O.length-a.1) (0,false) (λs=>s) (au (λs=>s) wT wH R) (⟨aE _,(show gV c 0=[]from R)⟩) ?_;intro a U;obtain⟨k,G⟩:=a;cases G
 .have u:=U;have v:k<=c.O.length:=u.1;have t:k<=1000000:=oT;have E:gV c k=[]:=u.2;refine zW (vB (decide (k<c.O.length))) (ak (bl _ _))<|zB R (λH=>?_) (λH=>?_)
  .have O:=ax H;obtain⟨s,b⟩:∃h,c.O[k]?=some h:=⟨_,aA ad⟩;have w:=A.set s (aB b);have B:s.length<=2:=e s (aB b);refine zX (bX s) (.k 1 0 (bX s)) R (iH b)<|zW (vN s.length) (cD a0 s)<|dk (κ:=Nat×Bool) (λa=>match a with|(j,false)=>⟨a6 [(1,.Y 4 (q.map bv) n),(2,.v (.string m)),(6,.v (.string (⟨#[]⟩:ByteArray))),(13,.Y 1 (c.O.map bX) false),(14,vN c.O.length),(15,vN k),(16,vB (decide (k<c.O.length))),(17,.k 1 0 (bX s)),(18,.Y 3 (s.map a0) false),(9,.Y 3 (s.map a0) false),(19,.Y 3 (s.map a0) false),(20,vN s.length),(21,vN j),(7,.Y 0 ([]) true)],aq [(0,.box [vI c.ways,.Y 1 (c.O.map bX) false])],16⟩|(j,true)=>⟨a6 [(1,.Y 4 (q.map bv) n),(2,.v (.string m)),(6,.v (.string (⟨#[]⟩:ByteArray))),(13,.Y 1 (c.O.map bX) false),(14,vN c.O.length),(15,vN k),(16,vB (decide (k<c.O.length))),(17,.k 1 0 (bX s)),(18,.Y 3 (s.map a0) false),(9,.Y 3 (s.map a0) false),(19,.Y 3 (s.map a0) false),(20,vN s.length),(21,vN j),(7,.X 15 0 ((gA c k s j).length) false)],aq [(0,.box [vI c.ways,.Y 1 (c.O.map bX) false]),(15,.arr ((gA c k s j).map ay) 2)],16⟩) (λa=>match a with|(j,false)=>(j<=s.length/\gA c k s j=[])|(j,true)=>(j<=s.length)) (λa=>s.length-a.1) (0,false) (λs=>s) (au (λs=>s) wT wH R) (⟨aE _,(show gA c k s 0=[]from(BD c k s).symm.trans E)⟩) ?_;intro a C;obtain⟨j,G⟩:=a;cases G
   .have g:=C;have v:j<=s.length:=g.1;have o:j<=1000000:=oT;have y:gA c k s j=[]:=g.2;refine zW (vB (decide (j<s.length))) (ak (bl _ _))<|zB R (λI=>?_) (λI=>?_)
    .have P:=ax I;obtain⟨x,d⟩:∃h,s[j]?=some h:=⟨_,aA ad⟩;have F:=w.2 x (aB d);refine zX (a0 x) (.k 3 0 (a0 x)) R (iH d)<|rV (.agg [vU x.S,.v (.string x.data)]) R<|rV (.Y 2 ([[vU x.S,.v (.string x.data)]]) true) R<|zF (x:=.X 28 0 1 false) (h':=an _ 28 (some (.arr (([(⟨x.S,x.data⟩:Pt)]).map ay) 2))) (Iw ad) (⟨R,by exact ad,by exact ad,tr⟩) ?_;have X:j+1<=1000001:=aD o (aC 1);refine zW (vN (j+1)) (ap (bH X R)) ?_;refine⟨(j+1,true),λi=>match i with|15=>28|i=>i,au _ ⟨⟨R,R⟩,⟨R,R⟩,⟨R,R⟩,⟨R,R⟩,⟨R,R⟩,⟨R,R⟩,⟨R,R⟩,⟨R,R⟩,⟨R,R⟩,⟨R,R⟩,⟨R,R⟩,⟨R,R⟩,⟨R,R⟩,⟨(show AV.X 28 0 (1) false=AV.X 28 0 (gA c k s (j+1)).length false from by rw[<-(show [(⟨x.S,x.data⟩:Pt)]=gA c k s (j+1)from(by rw[<-(tL d),y];rfl))];first|done|rfl|(congr 1<;>(first|exact ad|simp))),rfl⟩,trivial⟩ ⟨⟨rfl,rfl,rfl⟩,⟨rfl,(am (λz:List Pt=>some (a'.arr (z.map ay) 2)) (show [(⟨x.S,x.data⟩:Pt)]=gA c k s (j+1)from(by rw[<-(tL d),y];rfl))),R⟩,tr⟩ R,oT,by show s.length-(j+1)<s.length-j;omega⟩
    have P:=aF I;have Y:k+1<=1000001:=aD t (aC 1);refine zW (vN (k+1)) (ap (bH Y R)) ?_;refine⟨(k+1,false),λi=>i,au _ wT wH R,⟨oT,(by rw[<-yA (j:=j) b ad];exact y)⟩,by show c.O.length-(k+1)<c.O.length-k;omega⟩
   have g:=C;have v:j<=s.length:=g;have o:j<=1000000:=oT;have N:(gA c k s j).length<=10:=(Kq r e B);refine zW (vB (decide (j<s.length))) (ak (bl _ _))<|zB R (λJ=>?_) (λJ=>?_)
   .have Q:=ax J;obtain⟨x,d⟩:∃h,s[j]?=some h:=⟨_,aA ad⟩;have F:=w.2 x (aB d);refine zX (a0 x) (.k 3 0 (a0 x)) R (iH d)<|rV (.agg [vU x.S,.v (.string x.data)]) R<|rV (.Y 2 ([[vU x.S,.v (.string x.data)]]) true) R<|zF (x:=.X 28 0 ((gA c k s j).length+1) false) (h':=an (an _ 15 none) 28 (some (.arr (((gA c k s j)++([(⟨x.S,x.data⟩:Pt)])).map ay) 2))) (iP ay (gA c k s j) ([(⟨x.S,x.data⟩:Pt)]) ad ad) (⟨by exact ad,by exact ad,tr⟩) ?_;have Z:j+1<=1000001:=aD o (aC 1);refine zW (vN (j+1)) (ap (bH Z R)) ?_;refine⟨(j+1,true),λi=>match i with|15=>28|i=>i,au _ ⟨⟨R,R⟩,⟨R,R⟩,⟨R,R⟩,⟨R,R⟩,⟨R,R⟩,⟨R,R⟩,⟨R,R⟩,⟨R,R⟩,⟨R,R⟩,⟨R,R⟩,⟨R,R⟩,⟨R,R⟩,⟨R,R⟩,⟨(show AV.X 28 0 ((gA c k s j).length+1) false=AV.X 28 0 (gA c k s (j+1)).length false from by rw[<-(show(gA c k s j)++([(⟨x.S,x.data⟩:Pt)])=gA c k s (j+1)from tL d)];first|done|rfl|(congr 1<;>(first|exact ad|simp))),rfl⟩,trivial⟩ ⟨⟨rfl,rfl,rfl⟩,⟨rfl,(am (λz:List Pt=>some (a'.arr (z.map ay) 2)) (show(gA c k s j)++([(⟨x.S,x.data⟩:Pt)])=gA c k s (j+1)from tL d)),R⟩,tr⟩ R,oT,by show s.length-(j+1)<s.length-j;omega⟩
   have Q:=aF J;have b4:k+1<=1000001:=aD t (aC 1);refine zW (vN (k+1)) (ap (bH b4 R)) ?_;refine⟨(k+1,true),λi=>match i with|7=>15|i=>i,au _ ⟨⟨R,R⟩,⟨R,R⟩,⟨R,R⟩,⟨R,R⟩,⟨R,R⟩,⟨R,R⟩,⟨(show AV.X 15 0 ((gA c k s j).length) false=AV.X 15 0 (gV c (k+1)).length false from by rw[<-(show gA c k s j=gV c (k+1)from yA b ad)];first|done|rfl|(congr 1<;>(first|exact ad|simp))),rfl⟩,trivial⟩ ⟨⟨rfl,rfl,rfl⟩,⟨rfl,(am (λz:List Pt=>some (a'.arr (z.map ay) 2)) (show gA c k s j=gV c (k+1)from yA b ad)),R⟩,tr⟩ R,oT,by show c.O.length-(k+1)<c.O.length-k;omega⟩
  have O:=aF H;refine zC (QZ q m n D W V)<|zC (Nd (jZ q m) (by unfold jZ;rw[iY];exact D)) ?_;have M:Ct c q m=rP (jZ q m) (gV c k):=by unfold Ct;rw[Fc ad]
  rw[M,E];exact fT R R
 have u:=U;have v:k<=c.O.length:=u;have t:k<=1000000:=oT;have aa:(gV c k).length<=8:=(Is r e);refine zW (vB (decide (k<c.O.length))) (ak (bl _ _))<|zB R (λK=>?_) (λK=>?_)
 .have S:=ax K;obtain⟨s,b⟩:∃h,c.O[k]?=some h:=⟨_,aA ad⟩;have w:=A.set s (aB b);have B:s.length<=2:=e s (aB b);refine zX (bX s) (.k 1 0 (bX s)) R (iH b)<|zW (vN s.length) (cD a0 s)<|dk (κ:=Nat) (λj=>⟨a6 [(1,.Y 4 (q.map bv) n),(2,.v (.string m)),(6,.v (.string (⟨#[]⟩:ByteArray))),(13,.Y 1 (c.O.map bX) false),(14,vN c.O.length),(15,vN k),(16,vB (decide (k<c.O.length))),(17,.k 1 0 (bX s)),(18,.Y 3 (s.map a0) false),(9,.Y 3 (s.map a0) false),(19,.Y 3 (s.map a0) false),(20,vN s.length),(21,vN j),(7,.X 15 0 ((gA c k s j).length) false)],aq [(0,.box [vI c.ways,.Y 1 (c.O.map bX) false]),(15,.arr ((gA c k s j).map ay) 2)],16⟩) (λj=>j<=s.length) (λj=>s.length-j) 0 (λi=>match i with|15=>7|i=>i) (au (λi=>match i with|15=>7|i=>i) ⟨⟨R,R⟩,⟨R,R⟩,⟨R,R⟩,⟨R,R⟩,⟨R,R⟩,⟨R,R⟩,⟨R,R⟩,⟨R,R⟩,⟨R,R⟩,⟨R,R⟩,⟨R,R⟩,⟨R,R⟩,⟨R,R⟩,⟨(show AV.X 7 0 ((gV c k).length) false=AV.X 7 0 (gA c k s 0).length false from by rw[<-(show gV c k=gA c k s 0 from BD c k s)];first|done|rfl),rfl⟩,trivial⟩ ⟨⟨rfl,rfl,rfl⟩,⟨rfl,(am (λz:List Pt=>some (a'.arr (z.map ay) 2)) (show gV c k=gA c k s 0 from BD c k s)),R⟩,tr⟩ R) (aE _) ?_;intro j C;have g:=C;have v:j<=s.length:=g;have o:j<=1000000:=oT;have N:(gA c k s j).length<=10:=(Kq r e B);refine zW (vB (decide (j<s.length))) (ak (bl _ _))<|zB R (λL=>?_) (λL=>?_)
  .have T:=ax L;obtain⟨x,d⟩:∃h,s[j]?=some h:=⟨_,aA ad⟩;have F:=w.2 x (aB d);refine zX (a0 x) (.k 3 0 (a0 x)) R (iH d)<|rV (.agg [vU x.S,.v (.string x.data)]) R<|rV (.Y 2 ([[vU x.S,.v (.string x.data)]]) true) R<|zF (x:=.X 28 0 ((gA c k s j).length+1) false) (h':=an (an _ 15 none) 28 (some (.arr (((gA c k s j)++([(⟨x.S,x.data⟩:Pt)])).map ay) 2))) (iP ay (gA c k s j) ([(⟨x.S,x.data⟩:Pt)]) ad ad) (⟨by exact ad,by exact ad,tr⟩) ?_;have b5:j+1<=1000001:=aD o (aC 1);refine zW (vN (j+1)) (ap (bH b5 R)) ?_;refine⟨j+1,λi=>match i with|15=>28|i=>i,au _ ⟨⟨R,R⟩,⟨R,R⟩,⟨R,R⟩,⟨R,R⟩,⟨R,R⟩,⟨R,R⟩,⟨R,R⟩,⟨R,R⟩,⟨R,R⟩,⟨R,R⟩,⟨R,R⟩,⟨R,R⟩,⟨R,R⟩,⟨(show AV.X 28 0 ((gA c k s j).length+1) false=AV.X 28 0 (gA c k s (j+1)).length false from by rw[<-(show(gA c k s j)++([(⟨x.S,x.data⟩:Pt)])=gA c k s (j+1)from tL d)];first|done|rfl|(congr 1<;>(first|exact ad|simp))),rfl⟩,trivial⟩ ⟨⟨rfl,rfl,rfl⟩,⟨rfl,(am (λz:List Pt=>some (a'.arr (z.map ay) 2)) (show(gA c k s j)++([(⟨x.S,x.data⟩:Pt)])=gA c k s (j+1)from tL d)),R⟩,tr⟩ R,oT,by show s.length-(j+1)<s.length-j;omega⟩
  have T:=aF L;have b6:k+1<=1000001:=aD t (aC 1);refine zW (vN (k+1)) (ap (bH b6 R)) ?_;refine⟨(k+1,true),λi=>match i with|7=>15|i=>i,au _ ⟨⟨R,R⟩,⟨R,R⟩,⟨R,R⟩,⟨R,R⟩,⟨R,R⟩,⟨R,R⟩,⟨(show AV.X 15 0 ((gA c k s j).length) false=AV.X 15 0 (gV c (k+1)).length false from by rw[<-(show gA c k s j=gV c (k+1)from yA b ad)];first|done|rfl|(congr 1<;>(first|exact ad|simp))),rfl⟩,trivial⟩ ⟨⟨rfl,rfl,rfl⟩,⟨rfl,(am (λz:List Pt=>some (a'.arr (z.map ay) 2)) (show gA c k s j=gV c (k+1)from yA b ad)),R⟩,tr⟩ R,oT,by show c.O.length-(k+1)<c.O.length-k;omega⟩
 have S:=aF K;refine zC (QZ q m n D W V)<|zL (x:=.v (.string (rP (jZ q m) (gV c k)))) R (.inr ⟨R,⟨tr,(by show 0+((gV c k).length)<=((gV c k).map ay).length;exact ad),tr⟩⟩) ((show bI C0 _ [_,.Y 2 (List.take ((gV c k).length) (List.drop 0 ((gV c k).map ay))) false] _ from by rw[jW ay (gV c k) ad];exact QX (jZ q m) (gV c k) false (by unfold jZ;rw[iY];exact D) (oH (Is (k:=k) r e)) (Uj (λs b=>(A.set s b).2) k))) ?_;have M:Ct c q m=rP (jZ q m) (gV c k):=by unfold Ct;rw[Fc ad]
 rw[M];exact fT R R
def AI(agF:List Pt)(c:Ca)(q:List bp)(m:ByteArray)(b a:Bool)(h:c.ok)(e:c.O.length<=4)(d:∀s∈c.O,s.length<=2)(g:m.size<=1000000)(n:q.length<=900000)(k:∀x∈q,x.ok)(j:agF.length<=1000000)(i:∀x∈agF,x.ok):bI C0 167 [.Y 2 (agF.map ay) a,.agg (fy c false),.Y 4 (q.map bv) b,.v (.string m)] (.v (.string (jz agF c q m))):=by
 refine bc func167 R ?_;refine zC (x' c q m b h e d g n k)<|zC (QX (Ct c q m) agF a (by unfold Ct jZ;rw[iY,iY];exact g) j i) ?_;exact fT R R
def Rb{m:ByteArray}{a:Nat}(h:a<=m.size):(m.extract a m.size).extract 0 (min (m.extract a m.size).size 16)=m.extract a (a+min (m.size-a) 16):=by
 have b:(m.extract a m.size).size=m.size-a:=by rw[dA];omega
 rw[b,ByteArray.extract_extract];congr 1<;>omega
def AS(m:ByteArray)(agY:Nat)(d:m.size<=1000000)(a:agY<=4294967295):bI C0 203 [.v (.string m),vU agY] (.v (.string (Ga m agY))):=by
 refine bc func203 R<|zC (tN agY a)<|zW _ (ap (nJ (dV a) R))<|rV (vN m.size) R<|rW _ R (ap (nJ d R))<|b0 (ak (im _ _)) (λb=>?_) (λb=>?_)
 .have c:=ax b;exact fT R (by unfold Ga;rw[dZ ad];rfl)
 have c:=aF b;refine zM (.v (.string (m.extract (ao agY) m.size))) R (by refine⟨?_,?_,?_⟩<;>(first|exact aG _|decide|(apply FG.2;exact ad)))<|rV (vN ((m.extract (ao agY) m.size).size)) rfl<|rW _ rfl (Bo ((m.extract (ao agY) m.size).size) 16)<|zM (.v (.string ((m.extract (ao agY) m.size).extract 0 (min ((m.extract (ao agY) m.size).size) 16)))) rfl (by refine⟨?_,?_,?_⟩<;>(first|exact aG _|decide|(apply FG.2;exact ad))) ?_;exact fT rfl (by unfold Ga;rw[aa ad,Rb ad];rfl)
def GQ(r:Nat->Nat)(s:Sp)(c:∀k,r k<=4294967295)(d:s.ok):bI C0 136 [.agg (Ks r),.agg (a2 s)] (.agg (Ks (lY r s))):=by
 refine bc func136 R<|zV (vB (decide (s.rd>=1)))<|gS R id<|aw R id R<|zN R (λh=>h)<|gS R id<|aw R id R<|zN R (λh=>h)<|zB R (λa=>?_) (λa=>?_)
 .have b:(1<=s.rd/\s.rd<=31/\s.halt=0):=by have z:=a;simp only[qA,aP,aY,pU,kI,bA,ne_eq]at z;omega
  refine nW (.ptr 0 (0+s.rd.toNat*1)) R R ad<|Ow (h':=an _ 0 (some (.box (Ks (hL r s.rd.toNat s.value))))) R R (Di (r:=r) (v:=s.value) R R R ad) (trivial)<|cg 0 R ?_;rw[show lY r s=hL r s.rd.toNat s.value from by unfold lY;rw[aa b]];exact dK R dc R R
 have b: ¬(1<=s.rd/\s.rd<=31/\s.halt=0):=by have z:=a;simp only[qA,aP,aY,pU,kI,bA,ne_eq]at z;omega
 rw[show lY r s=r from by unfold lY;rw[dZ b]];exact dK R dc R R
abbrev C9(o:Option Pt):AV:=.F [.agg (ay (o.getD ⟨0,oZ⟩)),vB o.isSome]
def LO(s:Sp)(i:s.ok):bI C0 135 [.agg (a2 s)] (C9 (iJ s)):=by
 refine bc func135 R<|gS R id<|aw R id R<|zN R (by simp)<|gS R id<|aw R id R<|zG R id<|gS R id<|aw R id R<|pB (x:=vB (cE (s.size != 1) (s.size != 2) false)) (g:= !(cE (!s.store) true (s.halt != 0))) R R R R (λh=>h) R R (λd c=>by first|(rw[d,c];rfl)|simp_all)<|zG rfl id<|gS rfl id<|aw rfl id rfl<|pB (x:=vB (cE (cE (s.size != 1) (s.size != 2) false) (s.size != 4) false)) (g:= !(cE (!s.store) true (s.halt != 0))) R R R R (λh=>h) R R (λd c=>by first|(rw[d,c];rfl)|simp_all)<|zN rfl (by simp)<|zB rfl (λa=>?_) (λa=>?_)
 .have b:s.store=false\/s.halt≠0\/(s.size≠1/\s.size≠2/\s.size≠4):=by have z:=a;simp only[qA,ae,aP,dE,aY,pU,pX,qI,dP,kI,iC,mJ,ne_eq,and_imp]at z;rcases z with (z|z)|z<;>simp_all
  refine zV (.agg [.v (.int .u32 0),.v (.string (⟨#[]⟩:ByteArray))]) ?_;rw[show iJ s=none from by unfold iJ;rw[aa b]];exact fT rfl rfl
 have b: ¬(s.store=false\/s.halt≠0\/(s.size≠1/\s.size≠2/\s.size≠4)):=by have z:=a;intro q;rcases q with q|q|⟨j,k,m⟩<;>simp_all[qA,ae]
 obtain⟨n,e⟩:∃n:Nat,s.size=(n:Int):=⟨s.size.toNat,oT⟩;have g:n<=4:=oT;refine zC (x:=.F [.v (.string (oF s.value n)),vI 0]) ((by rw[e];exact Nv s.value n (CI i.value) g))<|zV (.agg [vU s.W,.v (.string (oF s.value n))]) ?_;rw[show iJ s=some ⟨s.W,oF s.value n⟩from by unfold iJ;rw[dZ b,e];rfl];exact fT R R
def QS(k:Int):(if(0:Int)>k then 0 else k)=(((max k 0).toNat:Nat):Int):=by split<;>omega
def QT(c:Cf):(bZ c).q.length<=64:=by unfold bZ;simp;omega
def OL(c:Cf):(bZ c).tape.length<=64:=by unfold bZ;simp;omega
def Iq{c:Cf}(h:∀x∈c.tape,x<=4294967295):∀x∈(bZ c).tape,x<=4294967295:=λx a=>h x (cQ a)
def QU{c:Cf}{k:Int}{x:Int}(h: ¬(bZ c).q.length=0)(a:(bZ c).q[(max k 0).toNat%(bZ c).q.length]?=some x):x=lX c k:=by
 unfold lX;generalize (bZ c).q=l at h a
 cases l with
 |nil=>exact absurd R h
 |cons y l=>simp only[aR,a];rfl
def OM{c:Cf}{k:Int}{x pc:Nat}(h: ¬(bZ c).tape.length=0)(a:(bZ c).tape[(max k 0).toNat%(bZ c).tape.length]?=some x):x=yG c k pc:=by
 unfold yG;generalize (bZ c).tape=l at h a
 cases l with
 |nil=>exact absurd R h
 |cons y l=>simp only[aR,a];rfl
def Fa(c:Cf)(k:Int)(e:c.ok)(n:k<=9223372036854775807):bI C0 172 [.agg (er c false false),vI k] (vI (lX c k)):=by
 refine bc func172 R<|zC (Eb c false false e)<|rW _ R (cD bm ((bZ c).q))<|b0 (ak (ba _ _)) (λd=>?_) (λd=>?_)
 .have a:=mT d;have h:(bZ c).q=[]:=gq a;exact fT R (Ni (by unfold lX;rw[h]))
 have a:=nA d;have j:=aQ (max k 0).toNat (eU a);refine zW _ (ap (QS k))<|rW _ R (cD bm ((bZ c).q)) ?_;have m:((max k 0).toNat)%(((bZ c).q).length)<=9223372036854775807:=aL (gR _ _) ad;refine nW _ R (ij (sc _ _)) ad ?_;obtain⟨g,b⟩:∃i,((bZ c).q)[(((max k 0).toNat)%(((bZ c).q).length))]?=some i:=⟨_,aA ad⟩;refine zX (bm g) (.k 1 0 (bm g)) R (iH b) ?_;exact fT R (Ni (QU a b))
def QV(c:Cf)(k:Int)(pc:Nat)(d:c.ok)(r:k<=9223372036854775807)(n:pc<=4294967295):bI C0 191 [.agg (er c false false),vI k,vU pc] (vU (yG c k pc)):=by
 refine bc func191 R<|zC (Eb c false false d)<|rW _ R (cD dU ((bZ c).tape))<|b0 (ak (ba _ _)) (λe=>?_) (λe=>?_)
 .have a:=mT e;have o:(pc+4)%4294967296<=4294967295:=aI (aQ _ dT);refine zV (vU ((pc+4)%4294967296)) ?_;have i:(bZ c).tape=[]:=gq a;exact fT R (GW (by unfold yG;rw[i];rfl))
 have a:=nA e;have m:=aQ (max k 0).toNat (eU a);refine zW _ (ap (QS k))<|rW _ R (cD dU ((bZ c).tape)) ?_;have q:((max k 0).toNat)%(((bZ c).tape).length)<=9223372036854775807:=aL (gR _ _) ad;refine nW _ R (ij (sc _ _)) ad ?_;obtain⟨g,b⟩:∃j,((bZ c).tape)[(((max k 0).toNat)%(((bZ c).tape).length))]?=some j:=⟨_,aA ad⟩;have h:=(Iq d.tp) g (aB b);refine zX (dU g) (.k 1 0 (dU g)) R (iH b) ?_;exact fT R (GW (OM a b))
def ko(n lo a:Int):bI C0 162 [vI n,vI lo,vI a] (vB (jf n lo a)):=by
 refine bc func162 R<|zV (vB (decide (n>=lo)))<|aw R b9 R<|zN R (λh=>h) ?_;exact fT R (dR (by rw[bB];simp[qA,ae,jf]))
structure Cf.okW(c:Cf):Prop where
 q:c.q.length<=9223372036854775807
 tape:c.tape.length<=9223372036854775807
 tp:∀x∈c.tape,x<=4294967295
def DV{α:Type}{p:α->Bool}{l:List α}{k:Nat}{x:α}(a:l[k]?=some x)(hp:p x=true)(h:(l.take k).all p=true):(l.take (k+1)).all p=true:=by
 rw[bW,a,List.all_append,h];simpa using hp
def Ir{α:Type}{p:α->Bool}{l:List α}{k:Nat}{x:α}(a:l[k]?=some x)(hp:p x=false):l.all p=false:=by
 rw[List.all_eq_false];exact⟨x,aB a,by simp[hp]⟩
def DW{α:Type}{p:α->Bool}{l:List α}{k:Nat}(a:l.length<=k)(h:(l.take k).all p=true):l.all p=true:=by rwa [aN a]at h
def Ug(c:Cf)(b:c.okW):bI C0 110 [.agg (er c false false)] (vB (wA c)):=by
 refine bc func110 R<|zW _ (cD bm c.q)<|dk (κ:=Nat) (λk=>⟨a6 [(1,.ptr 0 0),(3,.a 162 [] []),(7,.Y 1 (c.q.map bm) false),(8,vN c.q.length),(9,vN k)],aq [(0,.box [vI c.mode,vI c.o,vI c.Z,vI c.queue,vI c.V,vI c.m,vI c.O,vI c.ways,.Y 1 (c.q.map bm) false,vB c.tables,.Y 1 (c.tape.map dU) false])],7⟩) (λk=>k<=c.q.length/\(c.q.take k).all (λn=>jf n 1 8)=true) (λk=>c.q.length-k) 0 (λs=>s) (au (λs=>s) wT wH R) (⟨aE _,R⟩) ?_;intro k i;have t:k<=c.q.length:=i.1;have r:k<=9223372036854775807:=oH b.q;have o:=b.q;refine b0 (ak (bl _ _)) (λd=>?_) (λd=>?_)
 .have m:=ax d;obtain⟨x,j⟩:∃q,c.q[k]?=some q:=⟨_,aA ad⟩;refine zX (bm x) (.k 1 0 (bm x)) R (iH j)<|zC (ko x 1 8)<|zB R (λe=>?_) (λe=>?_)
  .have z:=e;exact fT R (dR (by unfold wA;rw[Ir j (sU z)];simp))
  skip
  have u:k+1<=9223372036854775807:=oT;refine zW _ (ap (bH (oT:k+1<=9223372036854775807) R)) ?_;refine⟨k+1,λs=>s,au _ wT wH R,⟨oT,DV j (sU e) i.2⟩,by show c.q.length-(k+1)<c.q.length-k;omega⟩
 have m:=aF d;refine zC (ko c.mode 0 2)<|gS R id<|jQ (x:=vB (jf c.o 1 2)) (g:=jf c.mode 0 2) R R R R b9 R R R (.inl R) R (λa=>ko c.o 1 2)<|zN R (λh=>h)<|gS R id<|jQ (x:=vB (jf c.Z 2 8)) (g:=cE (jf c.mode 0 2) (jf c.o 1 2) false) R R R R b9 R R R (.inl R) R (λa=>ko c.Z 2 8)<|zN R (λh=>h)<|gS R id<|jQ (x:=vB (jf c.queue 1 4)) (g:=cE (cE (jf c.mode 0 2) (jf c.o 1 2) false) (jf c.Z 2 8) false) R R R R b9 R R R (.inl R) R (λa=>ko c.queue 1 4)<|zN R (λh=>h)<|gS R id<|jQ (x:=vB (jf c.V 1 4)) (g:=cE (cE (cE (jf c.mode 0 2) (jf c.o 1 2) false) (jf c.Z 2 8) false) (jf c.queue 1 4) false) R R R R b9 R R R (.inl R) R (λa=>ko c.V 1 4)<|zN R (λh=>h)<|gS R id<|jQ (x:=vB (jf c.m 2 6)) (g:=cE (cE (cE (cE (jf c.mode 0 2) (jf c.o 1 2) false) (jf c.Z 2 8) false) (jf c.queue 1 4) false) (jf c.V 1 4) false) R R R R b9 R R R (.inl R) R (λa=>ko c.m 2 6)<|zN R (λh=>h)<|gS R id<|jQ (x:=vB (jf c.O 1 4)) (g:=cE (cE (cE (cE (cE (jf c.mode 0 2) (jf c.o 1 2) false) (jf c.Z 2 8) false) (jf c.queue 1 4) false) (jf c.V 1 4) false) (jf c.m 2 6) false) R R R R b9 R R R (.inl R) R (λa=>ko c.O 1 4)<|zN R (λh=>h)<|gS R id<|aw R id R<|zN R (λh=>h)<|gS R id<|jQ (x:=vB (jf c.ways 1 2)) (g:=cE (cE (cE (cE (cE (cE (cE (jf c.mode 0 2) (jf c.o 1 2) false) (jf c.Z 2 8) false) (jf c.queue 1 4) false) (jf c.V 1 4) false) (jf c.m 2 6) false) (jf c.O 1 4) false) (c.O != 3) false) R R R R b9 R R R (.inl R) R (λa=>ko c.ways 1 2)<|zN R (λh=>h)<|gS R id<|aw R id (cD bm c.q)<|aw R id (ak (ju _ _))<|zN R (λh=>h)<|gS R id<|aw R id (cD dU c.tape)<|aw R id (ak (ju _ _))<|zN R (λh=>h) ?_;have g:=DW (p:=λn=>jf n 1 8) ad i.2;exact fT R (dR (by unfold wA;rw[g,bB];simp[qA,uK]))
def sb(c:Ca)(f:Cf)(a:c.ok):bI C0 112 [.agg (fy c false),.agg (er f false false)] (vB (Ax c f)):=by
 refine bc func112 R<|zC (AW c false a)<|gS R id<|gn (x:=vN c.O.length) R id (cD bX c.O)<|gS R id<|aw R b9 R<|zN R (λh=>h)<|zG R id<|gS R id<|aw R b9 R<|zN R (λh=>h) ?_;exact fT R (dR (by rw[bB];simp[qA,ae,Ax]))
abbrev S2(t:Ca×List bp×Bool):AV:=.F [.agg (fy t.1 false),.Y 4 (t.2.1.map bv) false,vB t.2.2]
abbrev S6(t:List Pt×Ca×Bool):AV:=.F [.Y 2 (t.1.map ay) false,.agg (fy t.2.1 false),vB t.2.2]
def GR{c:Ca}(h:c.ok)(agY:Nat)(d:ByteArray)(b:Bool):(qZ c agY d b).2.1.S<=4294967295:=by
 by_cases a:gG c=true
 .by_cases e:(bK c agY).2.isSome=true
  .rw[Cn e];exact aE _
  .rw[AR a (sU e)];split
   .show((pF c (bK c agY).1).getLast?.getD qE).S<=_
    cases j:(pF c (bK c agY).1).getLast? with
    |none=>exact aE _
    |some w=>
     have i:=List.mem_of_getLast? j;have g:(bK c agY).1<c.O.length:=by rw[rI a];exact AP (kJ a).1 _
     rw[vA (aA g)]at i;exact((h.set _ (jO g)).2 w i).S
   .exact aE _
 .rw[Nh (sU a)];exact aE _
def Nb(c:Ca)(q:List bp)(m:ByteArray)(agY:Nat)(left:Int)(b:c.ok)(n:q.length<=900000)(k:∀x∈q,x.ok)(j:m.size<=1000000)(a:agY<=4294967295):bI C0 171 [.agg (fy c false),.Y 4 (q.map bv) false,.v (.string m),vU agY,vI left] (S2 (iQ c q m agY left)):=by
 refine eb func171 R<|zC (AW c false b)<|zB R (λd=>?_) (λd=>?_)
 .rw[show iQ c q m agY left=(c,q,false)from by unfold iQ;rw[aa (sU d)]];exact fT R R
 refine zC (tN agY a)<|zC (As c (ao agY) b (dV a))<|zB R (λg=>?_) (λg=>?_)
 .refine zC (It c (ao agY) b (dV a)) ?_;rw[show iQ c q m agY left=(tO c (ao agY),q,false)from by unfold iQ;rw[dZ (sU d),aa g]];exact fT R R
 refine zR<|zC (QZ q m false j n k)<|zC (AS (jZ q m) (ao agY) (by unfold jZ;rw[iY];exact j) (dV a))<|zC (Re c (ao agY) (Ga (jZ q m) (ao agY)) false b (dV a))<|gS R id<|zN R (λh=>h)<|gS R id<|aw R id R<|zN R (λh=>h)<|zB R (λi=>?_) (λi=>?_)
 .have e:((qZ c (ao agY) (Ga (jZ q m) (ao agY)) false).2.2=true/\(qZ c (ao agY) (Ga (jZ q m) (ao agY)) false).2.1.f=true/\(qZ c (ao agY) (Ga (jZ q m) (ao agY)) false).2.1.data.size≠0):=by have z:=i;rw[jr]at z;simpa [qA,uK]using z
  refine zR<|zC (Ng q 4 (qZ c (ao agY) (Ga (jZ q m) (ao agY)) false).2.1.S left (qZ c (ao agY) (Ga (jZ q m) (ao agY)) false).2.1.data false n k (GR b _ _ _)) ?_;rw[show iQ c q m agY left=((qZ c (ao agY) (Ga (jZ q m) (ao agY)) false).1,Bi q 4 (qZ c (ao agY) (Ga (jZ q m) (ao agY)) false).2.1.S left (qZ c (ao agY) (Ga (jZ q m) (ao agY)) false).2.1.data,true)from by unfold iQ;rw[dZ (sU d),dZ (by rw[g];decide)];exact aa e];exact fT R R
 have e: ¬((qZ c (ao agY) (Ga (jZ q m) (ao agY)) false).2.2=true/\(qZ c (ao agY) (Ga (jZ q m) (ao agY)) false).2.1.f=true/\(qZ c (ao agY) (Ga (jZ q m) (ao agY)) false).2.1.data.size≠0):=by have z:=i;rw[jr]at z;simpa [qA,uK]using z
 rw[show iQ c q m agY left=((qZ c (ao agY) (Ga (jZ q m) (ao agY)) false).1,q,false)from by unfold iQ;rw[dZ (sU d),dZ (by rw[g];decide)];exact dZ e];exact fT R R
def x_(l:List Pt)(c:Ca)(e:c.ok)(k:l.length<=1000000)(h:∀x∈l,x.ok):bI C0 149 [.Y 2 (l.map ay) false,.agg (fy c false)] (S6 (sL l c)):=by
 refine eb func149 R<|rW (vN l.length) R (cD ay l)<|zW (vB (l.length==0)) (ak (ba _ _))<|zB R (λb=>?_) (λb=>?_)
 .have a:=mT b;refine pO R R<|oR 3 R<|a1 R<|oR 1 R<|rE 12<|And.intro (by kernel_rfl)<|ck 0 R ?_;have i:l=[]:=gq a;subst i;exact fT R R
 have a:=nA b;refine a7<|oR 2 R ?_;obtain⟨p,hp⟩:∃j,l[0]?=some j:=⟨_,aA ad⟩;have g:=h p (aB hp);refine FO (ay p) (x:=.k 2 0 (ay p)) R R R (⟨dT,iH hp⟩) R<|oR 3 R<|FO (ay p) (x:=.k 2 0 (ay p)) R R R (⟨dT,iH hp⟩) R<|oR 2 R<|aW R (Um c p.W p.data e g.W)<|oR 3 R<|dm 20 R R<|a1 R<|oR 1 R<|rE 23<|jk 0 R<|zB R (λd=>?_) (λd=>?_)
 .refine pO R R<|oR 3 R<|a1 R<|oR 1 R<|rE 30<|And.intro (by kernel_rfl)<|ck 0 R ?_;rw[show sL l c=(l,c,false)from by unfold sL;cases l with|nil=>cases hp|cons y l=>injection hp with hp;subst hp;exact dZ (sU d)];exact fT R R
 refine pO R R<|oR 1 R<|nW (.Y 2 ((l.drop 1).map ay) false) R (yB (Kr ay l 1)) g_<|oR 2 R<|a1 R<|oR 1 R<|rE 31<|And.intro (by kernel_rfl)<|ck 0 R ?_;rw[show sL l c=(l.drop 1,(xL c p.W p.data).1,true)from by unfold sL;cases l with|nil=>cases hp|cons y l=>injection hp with hp;subst hp;exact aa (sU d)];exact fT R R
structure Gu.ok(g:Gu):Prop where
 m:g.m.length<=9223372036854775807
 I:g.I.length<=9223372036854775807
 Z7:g.Z7<=4294967295
 so:∀x∈g.m,x.ok
 ro:∀x∈g.I,x<=4294967295
def XM{g:Gu}:sM g=true↔g.m.length=8/\g.Z7<8/\g.I.length<=4:=by
 unfold sM;simp only[aP,aY,uK]
def su{r:Bool}{k:Nat}(h:cE (!r) true (k != 5)=false):r=true/\k=5:=by
 cases r<;>simp[cE]at h⊢;exact h
def VR{r:Bool}{k:Nat}(h:cE (!r) true (k != 5)=true): ¬(r=true/\k=5):=by
 cases r<;>simp[cE]at h⊢;exact h
def UP{l:List Nat}{x:Nat}(h:l[l.length-1]?=some x):l.getLast?.getD 0=x:=by rw[oX,h];rfl
def IZ(g:Gu)(a:g.ok):bI C0 113 [.agg (i_ g)] (vB (sM g)):=by
 refine bc func113 R<|rW _ R (cD dn g.m)<|zW _ (ak (ba _ _))<|gS R id<|aw R id (ak (bl _ _))<|zN R (λh=>h)<|gS R id<|aw R id (cD dU g.I)<|aw R id (ak (ju _ _))<|zN R (λh=>h) ?_;exact fT R (dR (by rw[bB];simp[qA,ae,sM]))
def RG(g:Gu)(pc:Nat)(b:g.ok)(c:pc<=4294967295):bI C0 176 [.agg (i_ g),vU pc] (vN (gO g pc)):=by
 refine bc func176 R ?_;have a:pc/4<=1073741823:=eG c;refine zM _ (ij (nJ a R)) dT ?_;refine rW _ R (ap (x0 a b.Z7 R R)) ?_;have d:((pc/4)^^^g.Z7)%8<=7:=aI (aQ _ dT);refine nW (vU (((pc/4)^^^g.Z7)%8)) R R dT<|zW _ (ap (bH d R)) ?_;exact fT R (nT R)
def KH(g:Gu)(pc:Nat):gO g pc<=7:=by unfold gO;omega
def RH(i:SI)(a:i.C<=4294967295):bI C0 177 [g9 i] (vB (Ro i)):=by
 refine bc func177 R<|zV (vB (i.op==3))<|gS R id<|aw R id R<|zN R (by simp)<|gS R id<|aw R id R<|zN R (λh=>h) ?_;exact fT R (dR (by rw[bB];simp[qA,ae,Ro]))
def q7(i:SI)(a:i.C<=4294967295):bI C0 178 [g9 i] (vB (Gb i)):=by
 refine bc func178 R<|zV (vB (i.op==4))<|gS R id<|aw R id R<|zN R (λh=>h)<|gS R id<|aw R id R<|zN R (λh=>h) ?_;exact fT R (dR (by rw[bB];simp[qA,ae,Gb]))
def RJ(g:Gu)(pc:Nat)(i:SI)(a:g.ok)(s:pc<=4294967295)(u:i.C<=4294967295):bI C0 190 [.agg (i_ g),vU pc,g9 i] (vU (xC g pc i)):=by
 refine eb func190 R<|zC (IZ g a)<|jQ (x:=vN (aj i.op)) (g:= !(!(sM g))) R R R R (λh=>h) R R R (.inl R) R (λF=>pS i)<|aw R id (ak (db _ _))<|zN R (by simp)<|zB R (λj=>?_) (λj=>?_)
 .have t:=VR j;have B:(pc+4)%4294967296<=4294967295:=aI (aQ _ dT);refine zV (vU ((pc+4)%4294967296)) ?_;exact fT R (GW (by unfold xC;rw[dZ t];rfl))
 have m:=su j;have e:=XM.1 m.1;have y:=e.1;have E:=KH g pc;have A:=e.2.2;refine zW _ (cD dU g.I)<|zC (q7 i u)<|aw R id (ak (fq _ _))<|zN R (λh=>h)<|zB R (λk=>?_) (λk=>?_)
 .have d:Gb i=true/\0<g.I.length:=by simpa [qA]using k
  have x:=d.2;have C:g.I.length-1<=9223372036854775807:=aL (jT _ _) a.I;refine rW _ R (ap (DA ad a.I R)) ?_;obtain⟨n,b⟩:∃q,g.I[(g.I.length-1)]?=some q:=⟨_,aA ad⟩;have v:=a.ro n (aB b);refine zX (dU n) (.k 1 0 (dU n)) R (iH b) ?_;exact fT R (GW (by unfold xC;rw[aa m,aa d,UP b]))
 have d: ¬(Gb i=true/\0<g.I.length):=by simpa [qA]using k
 refine zR<|zC (RG g pc a s) ?_;obtain⟨o,c⟩:∃q,g.m[(gO g pc)]?=some q:=⟨_,aA ad⟩;have w:=a.so o (aB c);refine zX (dn o) (.k 2 0 (dn o)) R (iH c)<|zW _ (ak (ba _ _))<|gB R R<|aw R b9 R<|zN R (λh=>h)<|zB R (λr=>?_) (λr=>?_)
 all_goals
  first|(skip;have D:(pc+4)%4294967296<=4294967295:=aI (aQ _ dT);refine zV (vU ((pc+4)%4294967296)) ?_)|skip
  exact fT rfl (GW (by unfold xC;rw[aa m,dZ d];have z:=r;simp[qA]at z;simp[c,b_,z]<;>(intros;simp_all)))
def AZ(g:Gu)(pc next:Nat)(i:SI)(e:g.ok)(C:pc<=4294967295)(E:next<=4294967295)(t:i.C<=4294967295):bI C0 137 [.agg (i_ g),vU pc,vU next,g9 i] (.agg (i_ (fM g pc next i))):=by
 refine eb func137 R<|zC (IZ g e)<|jQ (x:=vN (aj i.op)) (g:= !(!(sM g))) R R R R (λh=>h) R R R (.inl R) R (λhg=>pS i)<|aw R id (ak (db _ _))<|zN R (by simp)<|zB R (λw=>?_) (λw=>?_)
 .have F:=VR w;refine dK R ga R ?_;show AV.agg [.Y 2 (g.m.map dn) false,vU g.Z7,.Y 1 (g.I.map dU) false]=_;refine am (λz=>AV.agg (i_ z)) (?_:g=fM g pc next i);unfold fM;rw[dZ F]
 have j:=su w;have u:=XM.1 j.1;have O:=u.1;have hS:=KH g pc;have P:=u.2.2;refine zF (x:=.X 11 0 8 false) (h':=an _ 11 (some (.arr ((List.replicate 8 (⟨0,0⟩:Gs)).map dn) 2))) (Ri (fH (f:=dn) (a:=(⟨0,0⟩:Gs))).symm) (⟨dT,dT,by show((8:Nat):Int)<=1000000;omega⟩)<|zF (x:=vI ((min ((g.m.map dn).length) (8):Nat):Int)) (h':=an _ 11 (some (.arr (g.m.map dn) 2))) (II (DX dn ((List.replicate 8 (⟨0,0⟩:Gs)).map dn) g.m ad ad)) (⟨by exact ad,tr⟩)<|zC (RG g pc e C)<|rV (.agg [vU pc,vU next]) R<|nW (.x 11 (0+(gO g pc)) 0) R R fd ?_;obtain⟨D,v⟩:∃H,g.m[(gO g pc)]?=some H:=⟨_,aA ad⟩;have G:=e.so D (aB v);have Q:(g.m.set (gO g pc) (⟨pc,next⟩:Gs))[(gO g pc)]?=some (⟨pc,next⟩:Gs):=aZ ad;refine nM (dn D) (h':=an _ 11 (some (.arr ((g.m.set (gO g pc) (⟨pc,next⟩:Gs)).map dn) 2))) R R R (⟨aG _,Jv (iH v)⟩) (vX (f:=dn) (l:=g.m) (k:=(gO g pc)) (x:=(⟨pc,next⟩:Gs))) ?_;have S:(2*g.Z7)%4294967296<=4294967295:=aI (aQ _ dT);refine qR 0 R<|zV (vU ((2*g.Z7)%4294967296)) ?_;have T:(pc+4)%4294967296<=4294967295:=aI (aQ _ dT);refine rV (vU ((pc+4)%4294967296)) R<|zW (vB (next != ((pc+4)%4294967296))) (ak (db _ _))<|zB R (λd=>?_) (λd=>?_)
 .have x:=wM d;have U:(((2*g.Z7)%4294967296)+1)%4294967296<=4294967295:=aI (aQ _ dT);refine zV (vU ((((2*g.Z7)%4294967296)+1)%4294967296))<|zF (x:=.X 37 0 0 false) (h':=an _ 37 (some (.arr (([]:List Nat).map dU) 1))) (rfl) (⟨dT,dT,by show((5:Nat):Int)<=1000000;omega⟩)<|zF (x:=.X 42 0 g.I.length false) (h':=an (an _ 37 none) 42 (some (.arr (g.I.map dU) 1))) (iP dU ([]:List Nat) g.I ad ad) (⟨by exact ad,by exact ad,tr⟩)<|zV (vN g.I.length)<|zC (RH i t)<|zB R (λk=>?_) (λk=>?_)
  .skip
   have V:(pc+4)%4294967296<=4294967295:=aI (aQ _ dT);refine rV (vU ((pc+4)%4294967296)) R<|rV (.Y 1 ([[vU ((pc+4)%4294967296)]]) true) R<|zF (x:=.X 54 0 (g.I.length+1) false) (h':=an (an _ 42 none) 54 (some (.arr ((g.I++([(pc+4)%4294967296])).map dU) 1))) (iP dU g.I ([(pc+4)%4294967296]) ad ad) (⟨by exact ad,by exact ad,tr⟩)<|rV (vN (g.I.length+1)) R<|zW (vB (decide ((g.I.length+1)>4))) (ak (fq _ _))<|zB R (λm=>?_) (λm=>?_)
   .have y:=ax m;refine zM (.X 54 1 (g.I.length+1-1) false) (LR (by first|rfl|omega) (by simp only[Option.getD];omega)) g_ ?_;have W:((((2*g.Z7)%4294967296)+1)%4294967296)%8<=7:=aI (aQ _ dT);refine zM (vU (((((2*g.Z7)%4294967296)+1)%4294967296)%8)) R dT<|zV (.agg [.X 11 0 8 false,vU (((((2*g.Z7)%4294967296)+1)%4294967296)%8),.X 54 1 (g.I.length+1-1) false])<|dK R ⟨(by show 0+8<=((g.m.set (gO g pc) (⟨pc,next⟩:Gs)).map dn).length;exact ad),tr,(by show 1+(g.I.length+1-1)<=((g.I++([(pc+4)%4294967296])).map dU).length;exact ad),tr⟩ R ?_;show AV.agg [.Y 2 (List.take 8 (List.drop 0 ((g.m.set (gO g pc) (⟨pc,next⟩:Gs)).map dn))) false,vU (((((2*g.Z7)%4294967296)+1)%4294967296)%8),.Y 1 (List.take (g.I.length+1-1) (List.drop 1 ((g.I++([(pc+4)%4294967296])).map dU))) false]=_;rw[jW dn (g.m.set (gO g pc) (⟨pc,next⟩:Gs)) ad,Cp (M:=(g.I++([(pc+4)%4294967296])).drop 1) dU (g.I++([(pc+4)%4294967296])) (aN ad)];refine am (λz=>AV.agg (i_ z)) (?_:(⟨g.m.set (gO g pc) (⟨pc,next⟩:Gs),((((2*g.Z7)%4294967296)+1)%4294967296)%8,(g.I++([(pc+4)%4294967296])).drop 1⟩:Gu)=fM g pc next i);unfold fM;rw[aa j];have z:=d;have a:=k;have b:=m;have c:b_ pc=(pc+4)%4294967296:=rfl;rw[c]
    try simp[qA]at z a b
    simp[z,a,b,j0]<;>(intros;first|omega|simp_all)
   have y:=aF m;have X:((((2*g.Z7)%4294967296)+1)%4294967296)%8<=7:=aI (aQ _ dT);refine zM (vU (((((2*g.Z7)%4294967296)+1)%4294967296)%8)) R dT<|zV (.agg [.X 11 0 8 false,vU (((((2*g.Z7)%4294967296)+1)%4294967296)%8),.X 54 0 (g.I.length+1) false])<|dK R ⟨(by show 0+8<=((g.m.set (gO g pc) (⟨pc,next⟩:Gs)).map dn).length;exact ad),tr,(by show 0+(g.I.length+1)<=((g.I++([(pc+4)%4294967296])).map dU).length;exact ad),tr⟩ R ?_;show AV.agg [.Y 2 (List.take 8 (List.drop 0 ((g.m.set (gO g pc) (⟨pc,next⟩:Gs)).map dn))) false,vU (((((2*g.Z7)%4294967296)+1)%4294967296)%8),.Y 1 (List.take (g.I.length+1) (List.drop 0 ((g.I++([(pc+4)%4294967296])).map dU))) false]=_;rw[jW dn (g.m.set (gO g pc) (⟨pc,next⟩:Gs)) ad,jW dU (g.I++([(pc+4)%4294967296])) ad];refine am (λz=>AV.agg (i_ z)) (?_:(⟨g.m.set (gO g pc) (⟨pc,next⟩:Gs),((((2*g.Z7)%4294967296)+1)%4294967296)%8,g.I++([(pc+4)%4294967296])⟩:Gu)=fM g pc next i);unfold fM;rw[aa j];have z:=d;have a:=k;have b:=m;have c:b_ pc=(pc+4)%4294967296:=rfl;rw[c]
   try simp[qA]at z a b
   simp[z,a,b,j0]<;>(intros;first|omega|simp_all)
  refine zC (q7 i t)<|aw rfl id (ak (fq _ _))<|zN rfl (λh=>h)<|zB R (λn=>?_) (λn=>?_)
  .have s:Gb i=true/\0<g.I.length:=by simpa [qA]using n
   have B:=s.2;have Y:g.I.length-1<=9223372036854775807:=aL (jT _ _) e.I;refine rW (vN (g.I.length-1)) R (ap (DA ad e.I R))<|zM (.X 42 0 (g.I.length-1) false) (LR (by first|rfl|omega) (by simp only[Option.getD];omega)) g_ ?_;have Z:((((2*g.Z7)%4294967296)+1)%4294967296)%8<=7:=aI (aQ _ dT);refine zM (vU (((((2*g.Z7)%4294967296)+1)%4294967296)%8)) R dT<|zV (.agg [.X 11 0 8 false,vU (((((2*g.Z7)%4294967296)+1)%4294967296)%8),.X 42 0 (g.I.length-1) false])<|dK R ⟨(by show 0+8<=((g.m.set (gO g pc) (⟨pc,next⟩:Gs)).map dn).length;exact ad),tr,(by show 0+(g.I.length-1)<=(g.I.map dU).length;exact ad),tr⟩ R ?_;show AV.agg [.Y 2 (List.take 8 (List.drop 0 ((g.m.set (gO g pc) (⟨pc,next⟩:Gs)).map dn))) false,vU (((((2*g.Z7)%4294967296)+1)%4294967296)%8),.Y 1 (List.take (g.I.length-1) (List.drop 0 (g.I.map dU))) false]=_;rw[jW dn (g.m.set (gO g pc) (⟨pc,next⟩:Gs)) ad,Cp (M:=g.I.take (g.I.length-1)) dU g.I (by rw[bS])];refine am (λz=>AV.agg (i_ z)) (?_:(⟨g.m.set (gO g pc) (⟨pc,next⟩:Gs),((((2*g.Z7)%4294967296)+1)%4294967296)%8,g.I.take (g.I.length-1)⟩:Gu)=fM g pc next i);unfold fM;rw[aa j];have z:=d;have a:=k;have b:=n;have c:b_ pc=(pc+4)%4294967296:=rfl;rw[c]
   try simp[qA]at z a b
   simp[z,a,b,j0]<;>(intros;first|omega|simp_all)
  have s: ¬(Gb i=true/\0<g.I.length):=by simpa [qA]using n
  have b9:((((2*g.Z7)%4294967296)+1)%4294967296)%8<=7:=aI (aQ _ dT);refine zM (vU (((((2*g.Z7)%4294967296)+1)%4294967296)%8)) R dT<|zV (.agg [.X 11 0 8 false,vU (((((2*g.Z7)%4294967296)+1)%4294967296)%8),.X 42 0 g.I.length false])<|dK R ⟨(by show 0+8<=((g.m.set (gO g pc) (⟨pc,next⟩:Gs)).map dn).length;exact ad),tr,(by show 0+g.I.length<=(g.I.map dU).length;exact ad),tr⟩ R ?_;show AV.agg [.Y 2 (List.take 8 (List.drop 0 ((g.m.set (gO g pc) (⟨pc,next⟩:Gs)).map dn))) false,vU (((((2*g.Z7)%4294967296)+1)%4294967296)%8),.Y 1 (List.take g.I.length (List.drop 0 (g.I.map dU))) false]=_;rw[jW dn (g.m.set (gO g pc) (⟨pc,next⟩:Gs)) ad,jW dU g.I ad];refine am (λz=>AV.agg (i_ z)) (?_:(⟨g.m.set (gO g pc) (⟨pc,next⟩:Gs),((((2*g.Z7)%4294967296)+1)%4294967296)%8,g.I⟩:Gu)=fM g pc next i);unfold fM;rw[aa j];have z:=d;have a:=k;have b:=n;have c:b_ pc=(pc+4)%4294967296:=rfl;rw[c]
  try simp[qA]at z a b
  simp[z,a,b,j0]<;>(intros;first|omega|simp_all)
 have x:=wN d;refine zF (x:=.X 34 0 0 false) (h':=an _ 34 (some (.arr (([]:List Nat).map dU) 1))) (rfl) (⟨dT,dT,by show((5:Nat):Int)<=1000000;omega⟩)<|zF (x:=.X 39 0 g.I.length false) (h':=an (an _ 34 none) 39 (some (.arr (g.I.map dU) 1))) (iP dU ([]:List Nat) g.I ad ad) (⟨by exact ad,by exact ad,tr⟩)<|zV (vN g.I.length)<|zC (RH i t)<|zB R (λo=>?_) (λo=>?_)
 .skip
  have I:(pc+4)%4294967296<=4294967295:=aI (aQ _ dT);refine rV (vU ((pc+4)%4294967296)) R<|rV (.Y 1 ([[vU ((pc+4)%4294967296)]]) true) R<|zF (x:=.X 51 0 (g.I.length+1) false) (h':=an (an _ 39 none) 51 (some (.arr ((g.I++([(pc+4)%4294967296])).map dU) 1))) (iP dU g.I ([(pc+4)%4294967296]) ad ad) (⟨by exact ad,by exact ad,tr⟩)<|rV (vN (g.I.length+1)) R<|zW (vB (decide ((g.I.length+1)>4))) (ak (fq _ _))<|zB R (λq=>?_) (λq=>?_)
  .have A:=ax q;refine zM (.X 51 1 (g.I.length+1-1) false) (LR (by first|rfl|omega) (by simp only[Option.getD];omega)) g_ ?_;have J:((2*g.Z7)%4294967296)%8<=7:=aI (aQ _ dT);refine zM (vU (((2*g.Z7)%4294967296)%8)) R dT<|zV (.agg [.X 11 0 8 false,vU (((2*g.Z7)%4294967296)%8),.X 51 1 (g.I.length+1-1) false])<|dK R ⟨(by show 0+8<=((g.m.set (gO g pc) (⟨pc,next⟩:Gs)).map dn).length;exact ad),tr,(by show 1+(g.I.length+1-1)<=((g.I++([(pc+4)%4294967296])).map dU).length;exact ad),tr⟩ R ?_;show AV.agg [.Y 2 (List.take 8 (List.drop 0 ((g.m.set (gO g pc) (⟨pc,next⟩:Gs)).map dn))) false,vU (((2*g.Z7)%4294967296)%8),.Y 1 (List.take (g.I.length+1-1) (List.drop 1 ((g.I++([(pc+4)%4294967296])).map dU))) false]=_;rw[jW dn (g.m.set (gO g pc) (⟨pc,next⟩:Gs)) ad,Cp (M:=(g.I++([(pc+4)%4294967296])).drop 1) dU (g.I++([(pc+4)%4294967296])) (aN ad)];refine am (λz=>AV.agg (i_ z)) (?_:(⟨g.m.set (gO g pc) (⟨pc,next⟩:Gs),((2*g.Z7)%4294967296)%8,(g.I++([(pc+4)%4294967296])).drop 1⟩:Gu)=fM g pc next i);unfold fM;rw[aa j];have z:=d;have a:=o;have b:=q;have c:b_ pc=(pc+4)%4294967296:=rfl;rw[c]
   try simp[qA]at z a b
   simp[z,a,b,j0]<;>(intros;first|omega|simp_all)
  have A:=aF q;have K:((2*g.Z7)%4294967296)%8<=7:=aI (aQ _ dT);refine zM (vU (((2*g.Z7)%4294967296)%8)) R dT<|zV (.agg [.X 11 0 8 false,vU (((2*g.Z7)%4294967296)%8),.X 51 0 (g.I.length+1) false])<|dK R ⟨(by show 0+8<=((g.m.set (gO g pc) (⟨pc,next⟩:Gs)).map dn).length;exact ad),tr,(by show 0+(g.I.length+1)<=((g.I++([(pc+4)%4294967296])).map dU).length;exact ad),tr⟩ R ?_;show AV.agg [.Y 2 (List.take 8 (List.drop 0 ((g.m.set (gO g pc) (⟨pc,next⟩:Gs)).map dn))) false,vU (((2*g.Z7)%4294967296)%8),.Y 1 (List.take (g.I.length+1) (List.drop 0 ((g.I++([(pc+4)%4294967296])).map dU))) false]=_;rw[jW dn (g.m.set (gO g pc) (⟨pc,next⟩:Gs)) ad,jW dU (g.I++([(pc+4)%4294967296])) ad];refine am (λz=>AV.agg (i_ z)) (?_:(⟨g.m.set (gO g pc) (⟨pc,next⟩:Gs),((2*g.Z7)%4294967296)%8,g.I++([(pc+4)%4294967296])⟩:Gu)=fM g pc next i);unfold fM;rw[aa j];have z:=d;have a:=o;have b:=q;have c:b_ pc=(pc+4)%4294967296:=rfl;rw[c]
  try simp[qA]at z a b
  simp[z,a,b,j0]<;>(intros;first|omega|simp_all)
 refine zC (q7 i t)<|aw rfl id (ak (fq _ _))<|zN rfl (λh=>h)<|zB R (λr=>?_) (λr=>?_)
 .have s:Gb i=true/\0<g.I.length:=by simpa [qA]using r
  have B:=s.2;have L:g.I.length-1<=9223372036854775807:=aL (jT _ _) e.I;refine rW (vN (g.I.length-1)) R (ap (DA ad e.I R))<|zM (.X 39 0 (g.I.length-1) false) (LR (by first|rfl|omega) (by simp only[Option.getD];omega)) g_ ?_;have M:((2*g.Z7)%4294967296)%8<=7:=aI (aQ _ dT);refine zM (vU (((2*g.Z7)%4294967296)%8)) R dT<|zV (.agg [.X 11 0 8 false,vU (((2*g.Z7)%4294967296)%8),.X 39 0 (g.I.length-1) false])<|dK R ⟨(by show 0+8<=((g.m.set (gO g pc) (⟨pc,next⟩:Gs)).map dn).length;exact ad),tr,(by show 0+(g.I.length-1)<=(g.I.map dU).length;exact ad),tr⟩ R ?_;show AV.agg [.Y 2 (List.take 8 (List.drop 0 ((g.m.set (gO g pc) (⟨pc,next⟩:Gs)).map dn))) false,vU (((2*g.Z7)%4294967296)%8),.Y 1 (List.take (g.I.length-1) (List.drop 0 (g.I.map dU))) false]=_;rw[jW dn (g.m.set (gO g pc) (⟨pc,next⟩:Gs)) ad,Cp (M:=g.I.take (g.I.length-1)) dU g.I (by rw[bS])];refine am (λz=>AV.agg (i_ z)) (?_:(⟨g.m.set (gO g pc) (⟨pc,next⟩:Gs),((2*g.Z7)%4294967296)%8,g.I.take (g.I.length-1)⟩:Gu)=fM g pc next i);unfold fM;rw[aa j];have z:=d;have a:=o;have b:=r;have c:b_ pc=(pc+4)%4294967296:=rfl;rw[c]
  try simp[qA]at z a b
  simp[z,a,b,j0]<;>(intros;first|omega|simp_all)
 have s: ¬(Gb i=true/\0<g.I.length):=by simpa [qA]using r
 have N:((2*g.Z7)%4294967296)%8<=7:=aI (aQ _ dT);refine zM (vU (((2*g.Z7)%4294967296)%8)) R dT<|zV (.agg [.X 11 0 8 false,vU (((2*g.Z7)%4294967296)%8),.X 39 0 g.I.length false])<|dK R ⟨(by show 0+8<=((g.m.set (gO g pc) (⟨pc,next⟩:Gs)).map dn).length;exact ad),tr,(by show 0+g.I.length<=(g.I.map dU).length;exact ad),tr⟩ R ?_;show AV.agg [.Y 2 (List.take 8 (List.drop 0 ((g.m.set (gO g pc) (⟨pc,next⟩:Gs)).map dn))) false,vU (((2*g.Z7)%4294967296)%8),.Y 1 (List.take g.I.length (List.drop 0 (g.I.map dU))) false]=_;rw[jW dn (g.m.set (gO g pc) (⟨pc,next⟩:Gs)) ad,jW dU g.I ad];refine am (λz=>AV.agg (i_ z)) (?_:(⟨g.m.set (gO g pc) (⟨pc,next⟩:Gs),((2*g.Z7)%4294967296)%8,g.I⟩:Gu)=fM g pc next i);unfold fM;rw[aa j];have z:=d;have a:=o;have b:=r;have c:b_ pc=(pc+4)%4294967296:=rfl;rw[c]
 try simp[qA]at z a b
 simp[z,a,b,j0]<;>(intros;first|omega|simp_all)
end Go.Proofs.YtiaekocjeinkjaaGreatDoor
