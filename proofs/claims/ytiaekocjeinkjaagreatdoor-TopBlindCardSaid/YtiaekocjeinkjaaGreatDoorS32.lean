import Derived.Test.YtiaekocjeinkjaaGreatDoorS31
set_option linter.all false
namespace Go.Proofs.YtiaekocjeinkjaaGreatDoor
open Go.RowKit
noncomputable def C1:a5:={C0 with lt:=true}
def l':cb C1:=⟨gr.1,gr.2,gr.3⟩
def ry{f:FuncId}{args:List AV}{r:AV}(h:bI C1 f args r):bI C0 f args r:=h
theorem dJ{f}{b}{a}{args}{r}(h:C1.P.funcs[f]?=some b)(i:eA C1 (bI C1) a ⟨gj args,λ _=>none,0⟩ (Fin C1 b r))(g:b.body=some a:=by rfl)(d:(b.name== "runtime.NumGoroutine")=false:=by rfl) (e:rU b.ntmps a=true:=by kernel_rfl) (c:Nat.ble args.length b.ntmps=true:=by rfl):bI C0 f args r:=ry (bI.intro l' h g d e c i)
theorem eb{f}{b}{a}{args}{r}(h:C1.P.funcs[f]?=some b)(g:b.body=some a)(i:en C1 (bI C1) (Fin C1 b r) (.code a) (gj args) (λ _=>none) 0 [])(d:(b.name== "runtime.NumGoroutine")=false:=by rfl) (e:rU b.ntmps a=true:=by kernel_rfl) (c:Nat.ble args.length b.ntmps=true:=by rfl):bI C0 f args r:=dJ h (zK i) g d e c
theorem hI(s){f}{b}{a}{args}{h}{bs}(j:C1.P.funcs[f]?=some b)(k:eA (C1.at s) (bI (C1.at s)) a ⟨gj args,h,s⟩ (p5 (C1.at s) b bs s))(i:b.body=some a:=by rfl)(e:(b.name== "runtime.NumGoroutine")=false:=by rfl) (g:rU b.ntmps a=true:=by kernel_rfl) (d:Nat.ble args.length b.ntmps=true:=by rfl) (c:hD h s=true:=by rfl):pM C0.P C0.G f args h s bs:=HCall.intro l'.at j i e g d c k
theorem hZ(s){f}{b}{a}{args}{h}{bs}(j:C1.P.funcs[f]?=some b)(i:b.body=some a)(k:en (C1.at s) (bI (C1.at s)) (p5 (C1.at s) b bs s) (.code a) (gj args) h s [])(e:(b.name== "runtime.NumGoroutine")=false:=by rfl) (g:rU b.ntmps a=true:=by kernel_rfl) (d:Nat.ble args.length b.ntmps=true:=by rfl) (c:hD h s=true:=by rfl):pM C0.P C0.G f args h s bs:=hI s j (zK k) i e g d c
def af(x):IntKind.wrap .i64 x=wrap64 x:=by rw[IntKind.wrap_i64];simp[wrap64]
theorem ae(c y):cE c true y=(c||y):=by cases c<;>rfl
theorem qA(c x):cE c x false=(c&&x):=by cases c<;>rfl
def sP{p q:Prop}(h:p)(t:p->q:=by intro h;(try simp[af,ae,qA,dE,aP,dP,kI,pU,pX,ne_eq,bA,iC,aY,mA,eJ,Bool.not_eq_false,Bool.not_eq_eq_eq_not,mD,Bool.not_false,Decidable.not_not]at h);exact h):q:=t h
abbrev h5:List AV:=[vI 0,vI 0,vI 0,vI 0,vI 0,vI 0,vI 0,vI 0,.Y 0 [] true,vB false,.Y 0 [] true,.Y 0 [] true,vI 0,zU,zU,zU,zU,zU,zU,zU,zU,zU,zU,zU,zU,zU,zU,zU,zU,zU,zU,zU,zU,zU,zU,zU,zU,zU,zU,zU,zU,zU,zU,zU,zU,zU,vB false,.Y 0 [] true,.Y 0 [] true,vI 0,.Y 0 [] true,vI 0,.Y 0 [] true,vI 0,.Y 0 [] true,.Y 0 [] true,vI 0,vI 0,.v (.string (⟨#[]⟩:ByteArray)),.Y 0 [] true,zU,.Y 0 [] true,vI 0,.Y 0 [] true]
def mT{α:Type}[BEq α][LawfulBEq α]{a b:α}(h:(a==b)=true):a=b:=eq_of_beq h
def nA{α:Type}[BEq α][LawfulBEq α]{a b:α}(h:(a==b)=false): ¬a=b:=λe=>by rw[e,qw]at h;cases h
def wM{α:Type}[BEq α][LawfulBEq α]{a b:α}(h:(a != b)=true): ¬a=b:=λe=>by rw[e]at h;simp at h
def wN{α:Type}[BEq α][LawfulBEq α]{a b:α}(h:(a != b)=false):a=b:=sU h
def vW{α}(f:α->List AV)(l:List α){n}(h:l.length=n):b1.ok (vI ((l.map f).length:Int))=.ok (vI (n:Int)):=by rw[aH,h]
def Jv{α}{l:List α}{k}{x}(h:l[k]?=some x):l[0+k]?=some x:=by rwa [bJ]
def Ri{p}{x}{h}{b rs}{r r'}(e:r=r'):b1.fx p x (an h b (some (.arr r rs)))=.fx p x (an h b (some (.arr r' rs))):=by rw[e]
def vX{α}{f}{l:List α}{k}{x}{h:AH}{b rs}:some (an h b (some (.arr ((l.map f).set (0+k) (f x)) rs)))=some (an h b (some (.arr ((l.set k x).map f) rs))):=by rw[bJ,List.map_set]
def yB{p}{rs}{r r'}{c}(e:r=r'):b1.Z9 p (.Y rs r c)=.Z9 p (.Y rs r' c):=by rw[e]
def LR{p}{s lo a n b}{c}(e:lo=a)(e':n=b):b1.Z9 p (.X s lo n c)=.Z9 p (.X s a b c):=by rw[e,e']
section
variable {α:Type}(f:α->List AV)
section
variable (l:List α)
def vY(H:Nat):List.drop 0 (List.take H (l.map f))=(l.take H).map f:=by rw[bS,eO]
def Kr(L:Nat):List.drop L (List.take (l.map f).length (l.map f))=(l.drop L).map f:=by rw[cH,kM]
def Iw{p}{H}{s rs m}{c}(a:c.length=m):b1.fx p (.X s 0 c.length false) (an H s (some (.arr c rs)))=.fx p (.X s 0 m false) (an H s (some (.arr c rs))):=by rw[a]
def iP{p:Prop}{H:AH}{s rs n m:Nat}(B:List α)(a:l.length=n)(b:l.length+B.length=m):
  b1.fx p (.X s 0 ((List.take n (List.drop 0 (l.map f))).length+(B.map f).length) false) (an H s (some (.arr (List.take n (List.drop 0 (l.map f))++B.map f) rs)))=.fx p (.X s 0 m false) (an H s (some (.arr ((l++B).map f) rs))):=by
 rw[bS,aN (by rw[aH,a];exact aC _),aH,aH,b,dH]
def Au{p:Prop}{H:AH}{s rs m:Nat}(B:List α)(a:l.length+B.length=m):
  b1.fx p (.X s 0 ((l.map f).length+(B.map f).length) false) (an H s (some (.arr (l.map f++B.map f) rs)))=.fx p (.X s 0 m false) (an H s (some (.arr ((l++B).map f) rs))):=by
 rw[aH,aH,a,dH]
def Uo{p:Prop}{H:AH}{s rs lo n m:Nat}(B:List α)(a:((l.drop lo).take n).length+B.length=m):
  b1.fx p (.X s 0 ((List.take n (List.drop lo (l.map f))).length+(B.map f).length) false) (an H s (some (.arr (List.take n (List.drop lo (l.map f))++B.map f) rs)))=.fx p (.X s 0 m false) (an H s (some (.arr ((((l.drop lo).take n)++B).map f) rs))):=by
 rw[<-a,dH,eO,kM,aH];simp[aM,bD,aH]
end
def DX{n:Nat}(X:List (List AV))(B:List α)(a:B.length=n)(b:X.length=n):X.take 0++(B.map f).take (min (B.map f).length n)++X.drop (0+min (B.map f).length n)=B.map f:=by
 rw[aH,a,Nat.min_self,pV,iA,cB oT,dY,aN (by rw[aH];omega)]
section
variable (l:List α)
def Cp{lo n:Nat}{M:List α}(h:(l.drop lo).take n=M):List.take n (List.drop lo (l.map f))=M.map f:=by rw[<-h,eO,kM]
def jW{n:Nat}(h:l.length<=n):List.take n (List.drop 0 (l.map f))=l.map f:=by rw[bS,aN (by rw[aH];exact h)]
end
end
def Iy{α}{f}{l:List α}{b rs lo n}{c}(h:lo+n<=l.length):e4 (some (b,rs,l.map f)) (.X b lo n c) (.Y rs (((l.drop lo).take n).map f) false):=by
 have:=e4.Y2 b rs lo n (l.map f) c false R (by rw[aH];exact h) nofun;rwa[eO,kM]
def nB{α}{f}{l:List α}{b rs n}{c}(h:l.length=n):e4 (some (b,rs,l.map f)) (.X b 0 n c) (.Y rs (l.map f) false):=by
 have:=Iy (f:=f) (b:=b) (rs:=rs) (c:=c) (l:=l) (lo:=0) (n:=n) oT
 rwa [bS,aN oT]at this
def jb{p:Prop}(h:p:=by repeat (first|exact trivial|refine⟨.refl _,?_⟩|refine⟨Iy (by exact ad),?_⟩|refine⟨nB (by exact ad),?_⟩)):p:=h
def zD{α:Type}{P:α->Prop}{l:List α}{n:Nat}(h:∀x∈l,P x):∀x∈l.take n,P x:=λx a=>h x (cQ a)
def Iz{α:Type}{P:α->Prop}{l:List α}{n:Nat}(h:∀x∈l,P x):∀x∈l.drop n,P x:=λx a=>h x (eT a)
def sJ{α:Type}{P:α->Prop}{l m:List α}(h:∀x∈l,P x)(h':∀x∈m,P x):∀x∈l++m,P x:=λx a=>(dz.1 a).elim (h x) (h' x)
def sK{α:Type}{P:α->Prop}{y:α}(h:P y):∀x∈[y],P x:=λx a=>by rw[uJ]at a;rw[a];exact h
def kt{α:Type}{P:α->Prop}{l:List α}{k:Nat}{y:α}(h:∀x∈l,P x)(h':P y):∀x∈l.set k y,P x:=λx a=>(List.mem_or_eq_of_mem_set a).elim (h x) λe=>e ▸ h'
theorem pM.Zi{P}{G}{f}{args}{rows}{rs lo n}{c}(H:pM P G f args (aq []) 0 (λx h'=>x=.X 0 lo n c/\h'=aq [(0,.arr rows rs)]))(K)(s2)(d:eW args=true):
  pM P G f args K s2 (λx h'=>x=.X s2 lo n c/\h'=an K s2 (some (.arr rows rs))):=by
 have:=H.frame (λx=>x) K s2 R (λx b=>absurd R b) nofun (λx y b=>absurd b (dG _)) (kW 0 args d) (λx h'=>x=.X s2 lo n c/\h'=an K s2 (some (.arr rows rs))) λr h' g=>?_
 .rwa [nQ _ args d]at this
 obtain⟨rfl,rfl⟩:=g;refine⟨_,⟨by simp[uW,wD],R⟩,λy blk a=>?_⟩;by_cases e:y=s2
 .subst e;rw[dB]at a;injection a with a;exact .inl ⟨0,.arr rows rs,R,(wD _ _ _).symm,by subst a;rfl⟩
 rw[cI _ _ e]at a;exact .inr ⟨a,λx b=>absurd b (dG _)⟩
theorem pM.YU{P}{G}{f}{args}{rows c}{rs g n}(H:pM P G f args (aq [(0,.arr rows rs)]) 1 (λx h'=>x=.X 1 0 n false/\h'=aq [(0,.arr rows rs),(1,.arr c g)]))(b)(K)(s2)(q:Nat.blt b s2=true)(j:K b=some (.arr rows rs))(o:mS 1 args=true):
  pM P G f (Bg (λ_=>b) args) K s2 (λx h'=>x=.X s2 0 n false/\h'=an K s2 (some (.arr c g))):=by
 refine H.frame (λ_=>b) K s2 R (λx d=>?_) (λx i d=>?_) (λx y d a _=>by omega) o _ λr' h' m=>?_
 .cases x with
  |zero=>omega
  |succ x=>exact absurd R d
 .cases x with
  |zero=>injection d with d;subst d;exact⟨aJ q,R,j⟩
  |succ x=>cases d
 .obtain⟨rfl,rfl⟩:=m;refine⟨_,⟨by simp[uW,wD],R⟩,λy i a=>?_⟩;by_cases k:y=s2
  .subst k;rw[dB]at a;injection a with a;exact .inl ⟨1,.arr c g,R,(wD _ _ _).symm,by subst a;rfl⟩
  .rw[cI _ _ k]at a;by_cases h:y=b
   .subst h;rw[j]at a;injection a with a;exact .inl ⟨0,.arr rows rs,R,R,by subst a;rfl⟩
   .exact .inr ⟨a,λx d e=>h e.symm⟩
abbrev h8(b:Bool):List AV:=[vB b]
structure ai.ok(e:ai):Prop where
 M:e.M<=4294967295
 C:e.i.C<=4294967295
 K:e.K<=4294967295
 value:e.value<=4294967295
 next:e.next<=4294967295
 W:e.W<=4294967295
structure bp.ok(x:bp):Prop where
 S:x.S<=4294967295
structure Pt.ok(x:Pt):Prop where
 W:x.W<=4294967295
structure Ft.ok(x:Ft):Prop where
 M:x.M<=4294967295
 K:x.K<=4294967295
structure Gs.ok(x:Gs):Prop where
 M:x.M<=4294967295
 next:x.next<=4294967295
structure Sp.ok(x:Sp):Prop where
 M:x.M<=4294967295
 next:x.next<=4294967295
 value:x.value<=4294967295
 W:x.W<=4294967295
def DA{a b B}(h:b<=a)(d:a<=B)(c:Nat.ble B 9223372036854775807=true):IntKind.wrap .i64 ((a:Int)-(b:Int))=((a-b:Nat):Int):=by
 have:=aJ c;rw[dd oT oT];omega
def sc(a b:Nat):Int.tmod (a:Int) (b:Int)=((a%b:Nat):Int):=pY a b |>.symm
def CI{a:Nat}(h:a<=4294967295):a<4294967296:=bG h
def oW{e e'}(h:e=e'):AV.agg (ab e)=.agg (ab e'):=by rw[h]
def DL{e e'}(h:e=e'):AV.agg (a2 e)=.agg (a2 e'):=by rw[h]
def dR{b a}(h:b=a):AV.v (.bool b)=.v (.bool a):=by rw[h]
def Ni{b a}(h:b=a):AV.v (.int .i64 b)=vI a:=by rw[h]
def GW{b a:Nat}(h:b=a):AV.v (.int .u32 (b:Int))=vU a:=by rw[h]
abbrev Ks(r:Nat->Nat):List AV:=[vU (r 0),vU (r 1),vU (r 2),vU (r 3),vU (r 4),vU (r 5),vU (r 6),vU (r 7),vU (r 8),vU (r 9),vU (r 10),vU (r 11),vU (r 12),vU (r 13),vU (r 14),vU (r 15),vU (r 16),vU (r 17),vU (r 18),vU (r 19),vU (r 20),vU (r 21),vU (r 22),vU (r 23),vU (r 24),vU (r 25),vU (r 26),vU (r 27),vU (r 28),vU (r 29),vU (r 30),vU (r 31)]
def S_(r)(n)(a:n<32):et (Lg (Ks r) (0+n*1))=.ok (vU (r n)):=by
 have:∀(n:_root_.Fin 32),et (Lg (Ks r) (0+n.1*1))=.ok (vU (r n.1)):=by
  intro n
  match n with
  |⟨0,_⟩=>rfl
  |⟨1,_⟩=>rfl
  |⟨2,_⟩=>rfl
  |⟨3,_⟩=>rfl
  |⟨4,_⟩=>rfl
  |⟨5,_⟩=>rfl
  |⟨6,_⟩=>rfl
  |⟨7,_⟩=>rfl
  |⟨8,_⟩=>rfl
  |⟨9,_⟩=>rfl
  |⟨10,_⟩=>rfl
  |⟨11,_⟩=>rfl
  |⟨12,_⟩=>rfl
  |⟨13,_⟩=>rfl
  |⟨14,_⟩=>rfl
  |⟨15,_⟩=>rfl
  |⟨16,_⟩=>rfl
  |⟨17,_⟩=>rfl
  |⟨18,_⟩=>rfl
  |⟨19,_⟩=>rfl
  |⟨20,_⟩=>rfl
  |⟨21,_⟩=>rfl
  |⟨22,_⟩=>rfl
  |⟨23,_⟩=>rfl
  |⟨24,_⟩=>rfl
  |⟨25,_⟩=>rfl
  |⟨26,_⟩=>rfl
  |⟨27,_⟩=>rfl
  |⟨28,_⟩=>rfl
  |⟨29,_⟩=>rfl
  |⟨30,_⟩=>rfl
  |⟨31,_⟩=>rfl
  |⟨k+32,h⟩=>exact absurd h oT
 exact this ⟨n,a⟩
def A0(r)(n v:Nat)(a:n<32):zS (0+n*1) [vU v] (Ks r)=Ks (hL r n v):=by
 have:∀(n:_root_.Fin 32),zS (0+n.1*1) [vU v] (Ks r)=Ks (hL r n.1 v):=by
  intro n
  match n with
  |⟨0,_⟩=>rfl
  |⟨1,_⟩=>rfl
  |⟨2,_⟩=>rfl
  |⟨3,_⟩=>rfl
  |⟨4,_⟩=>rfl
  |⟨5,_⟩=>rfl
  |⟨6,_⟩=>rfl
  |⟨7,_⟩=>rfl
  |⟨8,_⟩=>rfl
  |⟨9,_⟩=>rfl
  |⟨10,_⟩=>rfl
  |⟨11,_⟩=>rfl
  |⟨12,_⟩=>rfl
  |⟨13,_⟩=>rfl
  |⟨14,_⟩=>rfl
  |⟨15,_⟩=>rfl
  |⟨16,_⟩=>rfl
  |⟨17,_⟩=>rfl
  |⟨18,_⟩=>rfl
  |⟨19,_⟩=>rfl
  |⟨20,_⟩=>rfl
  |⟨21,_⟩=>rfl
  |⟨22,_⟩=>rfl
  |⟨23,_⟩=>rfl
  |⟨24,_⟩=>rfl
  |⟨25,_⟩=>rfl
  |⟨26,_⟩=>rfl
  |⟨27,_⟩=>rfl
  |⟨28,_⟩=>rfl
  |⟨29,_⟩=>rfl
  |⟨30,_⟩=>rfl
  |⟨31,_⟩=>rfl
  |⟨k+32,h⟩=>exact absurd h oT
 exact this ⟨n,a⟩
def Di{ev}{h}{s b n v:Nat}{a x}{r}(d:ev a=.ptr b (0+n*1))(e:h b=some (.box (Ks r)))(j:ev x=vU v)(i:n<32):
  bj C0 ev h s (.store 29 a x)=.fx True .any (an h b (some (.box (Ks (hL r n v))))):=by
 have c:C0.ty 29=some ru:=rfl;have g:(0+n*1+([vU v]:List AV).length).ble (Ks r).length=true:=iL (by simp;omega);simp only[bj,c,j,kN,d,e];rw[show([AV.v _].length.beq 1)=true from R];simp only;rw[g];simp only;rw[A0 _ _ _ i]
open Go.Proofs.Tryz
set_option maxRecDepth 100000
set_option maxHeartbeats 4000000
def pP{α}{l:List α}{k}(h:k<l.length):(eY l k).length=l.length:=by
 unfold eY;rw[aA h];simp;omega
def Cm{α}{l}{k}{x:α}(h:l[k]?=some x):eY l k=[x]++l.take k++l.drop (k+1):=by unfold eY;rw[h]
def pQ{α}{P:α->Prop}{l}{k}(h:∀x∈l,P x):∀x∈eY l k,P x:=by
 intro x hx;unfold eY at hx;rcases dz.1 hx with hx|hx
 .rcases dz.1 hx with hx|hx
  .split at hx
   .rename_i y a;simp at hx;subst hx;exact h _ (aB a)
   simp at hx
  exact h _ (cQ hx)
 exact h _ (eT hx)
def kJ{c}(h:gG c=true):0<c.O.length/\c.O.length<=4/\c.ways<=2/\1<=c.ways/\∀s∈c.O,(s.length:Int)<=c.ways:=by
 let⟨⟨e,g⟩,a⟩:=(jL c).1 h;refine⟨oT,oT,oT,oT,λs d=>?_⟩;obtain⟨k,b,rfl⟩:=fY d;exact((jX c k _).1 (a k _ (aA b))).1
theorem Fd:∀{l:List Wy} {agY j:Nat},jY l agY=some j->j<l.length
 |[],_,_,h=>by cases h
 | w::l,agY,j,h=>by
  simp[jY]at h;split at h
  .injection h with h;subst h;simp
  .obtain⟨i,a,rfl⟩:=Gi.1 h;have:=Fd a;simp;omega
def vA{c}{k}{s}(h:c.O[k]?=some s):pF c k=s:=by unfold pF;rw[h];rfl
def AP{c:Ca}(h:0<c.O.length)(agY:Nat):hj c agY<c.O.length:=aQ _ h
def rI{c:Ca}{agY:Nat}(h:gG c=true):bK c agY=(hj c (ao agY),jY (pF c (hj c (ao agY))) (ao agY)):=aa h
def pR{c}{agY}(h:(bK c agY).2.isSome=true):gG c=true/\(bK c agY).1=hj c (ao agY)/\(bK c agY).1<c.O.length/\(bK c agY).2.getD 0<(pF c (bK c agY).1).length:=by
 by_cases a:gG c=true
 .rw[rI a]at h⊢;let⟨j,d⟩:=FH.1 h;have b:jY _ _=some j:=d;refine⟨a,R,AP (kJ a).1 _,?_⟩;rw[b];exact Fd b
 unfold bK at h;rw[dZ a]at h;cases h
def Dw{c}{agY}(h:(bK c agY).2.isSome=true):tO c agY=rK c (bK c agY).1 (eY (pF c (bK c agY).1) ((bK c agY).2.getD 0)):=by
 unfold tO;let⟨j,a⟩:=FH.1 h;have e:bK c agY=((bK c agY).1,some j):=by rw[<-a]
 rw[e];rfl
def Dx{c}{agY}(h:(bK c agY).2.isSome=false):tO c agY=c:=by
 unfold tO;have a:(bK c agY).2=none:=sU h;have e:bK c agY=((bK c agY).1,none):=by rw[<-a]
 rw[e]
def AT(a b:Int):max a b=if b>a then b else a:=oT
def Ng(q)(b)(agY)(left)(a)(d)(e:q.length<=900000)(g:∀x∈q,x.ok)(c:agY<=4294967295):bI C0 189 [.Y 4 (q.map bv) d,vI b,vU agY,vI left,.v (.string a)] (.Y 4 ((Bi q b agY left a).map bv) false):=by
 refine bc func189 R<|rW _ R (cD bv q) ?_;refine rW _ R (ap (bH (aD e (aC 1)) R))<|zF R (⟨dT,FG.2 ad,by show(((q.length+1):Nat):Int)<=1000000;omega⟩)<|zF (iP bv ([]:List bp) q ad ad) (⟨by exact ad,by exact ad,tr⟩)<|zW _ R<|rV _ R<|rV _ R<|zF (iP bv q ([(⟨b,agY,if 1>left then 1 else left,a⟩:bp)]) ad ad) (⟨by exact ad,by exact ad,tr⟩)<|dK R (by show 0+(q.length+1)<=((q++([(⟨b,agY,if 1>left then 1 else left,a⟩:bp)])).map bv).length;exact ad) R ?_;show AV.Y 4 _ false=_;rw[jW bv _ ad,show Bi q b agY left a=q++([(⟨b,agY,if 1>left then 1 else left,a⟩:bp)])from by unfold Bi;congr 3;exact AT left 1]
abbrev T5(t:List bp×bp×Bool):AV:=.F [.Y 4 (t.1.map bv) false,.agg (bv t.2.1),vB t.2.2]
def VL(q)(j)(o:q.length<=900000)(k:∀x∈q,x.ok):bI C0 120 [.Y 4 (q.map bv) j] (T5 (eH q)):=by
 refine eb func120 R<|rW (vN q.length) R (cD bv q)<|zW (vB (q.length==0)) (ak (ba _ _))<|zB R (λg=>?_) (λg=>?_)
 .have d:=mT g;apply zV (.agg [vI 0,zU,vI 0,.v (.string (⟨#[]⟩:ByteArray))]);have m:q=[]:=gq d;subst m;exact⟨_,R,tr,R,Sub.F ⟨Sub.clip 4 _ j,Sub.refl _,Sub.refl _,tr⟩⟩
 have d:=nA g;refine rW (vN q.length) R (cD bv q)<|zF (x:=.X 8 0 q.length false) (h':=an _ 8 (some (.arr ((List.replicate q.length OU).map bv) 4))) (Ri (fH (f:=bv) (a:=OU)).symm) (⟨aG _,FG.2 ad,by show((q.length:Nat):Int)<=1000000;omega⟩)<|zF (x:=vI ((min ((q.map bv).length) (q.length):Nat):Int)) (h':=an _ 8 (some (.arr (q.map bv) 4))) (II (DX bv ((List.replicate q.length OU).map bv) q ad ad)) (⟨by exact ad,tr⟩)<|zM (.x 8 (0+0) 0) R (⟨dT,FF.2 (by show 0<q.length;exact ad)⟩) ?_;let⟨x,a⟩:=d7 q 0;have n:=k x (aB a);refine FO (bv x) R R R (⟨dT,Jv (iH a)⟩) R<|rV (vI (IntKind.wrap .i64 (x.left-1))) R<|zM (.x 8 (0+0) 0) R (⟨dT,FF.2 (by show 0<q.length;exact ad)⟩) ?_;have e:(q.set 0 (⟨x.kind,x.S,IntKind.wrap .i64 (x.left-1),x.data⟩:bp))[0]?=some (⟨x.kind,x.S,IntKind.wrap .i64 (x.left-1),x.data⟩:bp):=aZ ad;refine nM (bv x) (h':=an _ 8 (some (.arr ((q.set 0 (⟨x.kind,x.S,IntKind.wrap .i64 (x.left-1),x.data⟩:bp)).map bv) 4))) R R R (⟨dT,Jv (iH a)⟩) (vX (x:=(⟨x.kind,x.S,IntKind.wrap .i64 (x.left-1),x.data⟩:bp)))<|qR 0 R<|zM (.x 8 (0+0) 0) R (⟨dT,FF.2 (by show 0<q.length;exact ad)⟩)<|FO (bv (⟨x.kind,x.S,IntKind.wrap .i64 (x.left-1),x.data⟩:bp)) (x:=vI (IntKind.wrap .i64 (x.left-1))) R R R (⟨dT,Jv (iH e)⟩) R<|de (decide ((IntKind.wrap .i64 (x.left-1))>0)) (λh=>?_) (λh=>?_)
 .have b:=ax h;apply zV (.agg [vI 0,zU,vI 0,.v (.string (⟨#[]⟩:ByteArray))])
  try simp only[af]at b
  let⟨l,c⟩:∃l,q=x::l:=by cases q with|nil=>cases a|cons y l=>injection a with a;subst a;exact⟨l,R⟩
  have i:eH q=({x with left:=wrap64 (x.left-1)}::l,OU,false):=by rw[c];unfold eH;simp only[aa b]
  rw[i];refine dK R ⟨(by show 0+q.length<=((q.set 0 (⟨x.kind,x.S,IntKind.wrap .i64 (x.left-1),x.data⟩:bp)).map bv).length;exact ad),ga,tr,tr⟩ R ?_;show AV.F [.Y 4 (List.take q.length (List.drop 0 ((q.set 0 (⟨x.kind,x.S,IntKind.wrap .i64 (x.left-1),x.data⟩:bp)).map bv))) false,.agg [vI 0,zU,vI 0,.v (.string (⟨#[]⟩:ByteArray))],vB false]=_;rw[jW bv (q.set 0 (⟨x.kind,x.S,IntKind.wrap .i64 (x.left-1),x.data⟩:bp)) ad,c];simp only[af,gM]
  try rfl
 have b:=aF h;refine pO R R<|oR 1 R<|nW (.X 8 1 (q.length-1) false) R (LR (by first|rfl|omega) (by simp only[Option.getD];omega)) g_<|oR 1 rfl<|nW (.x 8 (0+0) 0) rfl rfl (⟨dT,FF.2 (by show 0<q.length;exact ad)⟩)<|FO (bv (⟨x.kind,x.S,IntKind.wrap .i64 (x.left-1),x.data⟩:bp)) rfl rfl rfl (⟨dT,Jv (iH e)⟩) rfl<|oR 1 rfl<|a1 rfl<|oR 1 rfl<|rE 34<|And.intro (by kernel_rfl)<|ck 0 rfl ?_
 try simp only[af]at b
 let⟨l,c⟩:∃l,q=x::l:=by cases q with|nil=>cases a|cons y l=>injection a with a;subst a;exact⟨l,R⟩
 have i:eH q=(l,{x with left:=wrap64 (x.left-1)},true):=by rw[c];unfold eH;simp only[dZ b]
 rw[i];refine dK R ⟨(by show 1+(q.length-1)<=((q.set 0 (⟨x.kind,x.S,IntKind.wrap .i64 (x.left-1),x.data⟩:bp)).map bv).length;exact ad),ga,tr,tr⟩ R ?_;show AV.F [.Y 4 (List.take (q.length-1) (List.drop 1 ((q.set 0 (⟨x.kind,x.S,IntKind.wrap .i64 (x.left-1),x.data⟩:bp)).map bv))) false,.agg [vI x.kind,vU x.S,vI (IntKind.wrap .i64 (x.left-1)),.v (.string x.data)],vB true]=_;rw[Cp bv (q.set 0 (⟨x.kind,x.S,IntKind.wrap .i64 (x.left-1),x.data⟩:bp)) (aN ad),c];simp[af,gM,List.drop_succ_cons,bS]
 try rfl
def q1(s)(k)(c)(d:k<s.length)(g:s.length<=900000)(e:∀x∈s,x.ok):bI C0 169 [.Y 3 (s.map a0) c,vN k] (.Y 3 ((eY s k).map a0) false):=by
 refine bc func169 R<|rW _ R (cD a0 s)<|zF R (⟨dT,FG.2 ad,by show((s.length:Nat):Int)<=1000000;omega⟩) ?_;let⟨x,a⟩:=d7 s k;refine zX _ (.k 3 0 (a0 x)) R (iH a)<|rV _ R<|zF (iP a0 ([]:List Wy) [x] ad ad) (⟨by exact ad,by exact ad,tr⟩)<|nW _ R (yB (vY a0 s k)) g_<|zF (iP a0 [x] (s.take k) ad ad) ⟨by exact ad,by exact ad,tr⟩ ?_;have b:k+1<=900001:=aD ad (aC 1);refine rW _ R (ap (bH b R))<|nW _ R (yB (Kr a0 s (k+1))) g_<|zF (x:=.X 24 0 (1+k+s.length-(k+1)) false) (iP a0 (([x])++(s.take k)) (s.drop (k+1)) ad ad) (⟨by exact ad,by exact ad,tr⟩)<|dK R (by show 0+(1+k+s.length-(k+1))<=(((([x])++(s.take k))++(s.drop _)).map a0).length;exact ad) R ?_;show AV.Y 3 _ false=_;rw[jW a0 _ ad,Cm a]
def VM(s)(k)(c)(e:k<s.length)(h:s.length<=900000)(g:∀x∈s,x.ok):pM C0.P C0.G 169 [.Y 3 (s.map a0) c,vN k] (aq []) 0 (λx h'=>x=.X 0 0 s.length false/\h'=aq [(0,.arr ((eY s k).map a0) 3)]):=by
 refine HCall.intro gr.at func169 R R (by kernel_rfl) R R<|qS 0 R<|rW _ R (cD a0 s)<|zF R (⟨dT,FG.2 ad,by show((s.length:Nat):Int)<=1000000;omega⟩) ?_;let⟨x,a⟩:=d7 s k;refine zX (a0 x) (.k 3 0 (a0 x)) R (iH a)<|rV (.Y 3 ([[vU x.S,vB x.f,.v (.string x.data)]]) true) R<|zF (iP a0 ([]:List Wy) [x] ad ad) (⟨by exact ad,by exact ad,tr⟩)<|nW _ R (yB (vY a0 s k)) g_<|zF (iP a0 [x] (s.take k) ad ad) ⟨by exact ad,by exact ad,tr⟩ ?_;have b:k+1<=900001:=aD ad (aC 1);refine rW _ R (ap (bH b R))<|nW _ R (yB (Kr a0 s (k+1))) g_<|zF (x:=.X 24 0 (1+k+s.length-(k+1)) false) (h':=an (an _ 17 none) 24 (some (.arr (((([x])++(s.take k))++(s.drop (k+1))).map a0) 3))) (iP a0 (([x])++(s.take k)) (s.drop (k+1)) ad ad) ⟨by exact ad,by exact ad,tr⟩ ?_;have d:1+k+s.length-(k+1)=s.length:=oT;refine BH (rs:=[.X 24 0 (1+k+s.length-(k+1)) false]) R (r:=.X 0 0 s.length false) (σ:=λ_=>24) a9 R (ah (λ_=>24) ?_ R ⟨⟨R,?_,R⟩,tr⟩ R)
 .show AV.X 24 0 (1+k+s.length-(k+1)) false=.X 24 0 s.length false;rw[d]
 show some (a'.arr (((([x])++(s.take k))++(s.drop (k+1))).map a0) 3)=some (a'.arr ((eY s k).map a0) 3);rw[(Cm a).symm]
def LP(c)(k)(s)(d:c.ok)(e:k<c.O.length)(b:c.O.length<=900000)(h:s.length<=900000)(g:∀x∈s,x.ok):bI C0 170 [.agg (fy c false),vN k,.Y 3 (s.map a0) false] (.agg (fy (rK c k s) false)):=by
 refine bc func170 R<|rW _ R (cD bX c.O)<|zF R (⟨aG _,iF _,by show((c.O.length:Nat):Int)<=1000000;have:=b;omega⟩)<|zF (II (DX bX (List.replicate c.O.length [.Y 0 [] true]) c.O ad ad)) (⟨by exact ad,tr⟩)<|nW _ R R fd ?_;let⟨i,a⟩:=d7 c.O k;refine nM _ R R R (⟨aG _,Jv (iH a)⟩) (vX)<|qR 0 R<|zV (.agg [vI c.ways,.X 5 0 c.O.length false])<|dK R ⟨tr,(by show 0+c.O.length<=((c.O.set k s).map bX).length;exact ad),tr⟩ R ?_;show AV.agg [vI c.ways,.Y 1 _ false]=_;rw[jW bX _ ad];exact am (λz=>AV.agg ((λz=>fy z false) z)) (R:(⟨c.ways,c.O.set k s⟩:Ca)=rK c k s)
def As(c)(agY)(e:c.ok)(a:agY<=4294967295):bI C0 143 [.agg (fy c false),vU agY] (.F [vN (bK c agY).1,vN ((bK c agY).2.getD 0),vB (bK c agY).2.isSome]):=by
 refine bc func143 R<|zC (AW c false e)<|zB R (λh=>?_) (λh=>?_)
 .have b:gG c=false:=sU h;exact fT R (by unfold bK;rw[dZ (by rw[b];decide)];rfl)
 have b:gG c=true:=sU h;let⟨g,k,o,n,i⟩:=kJ b;have j:=AP g (ao agY);refine zC (tN agY a)<|zC (VO c (ao agY) false g ad (dV a)) ?_;obtain⟨s,d⟩:=d7 c.O (hj c _);have m:s.length<=2:=oH (i s (aB d));exact zX _ (.k 1 0 (bX s)) R (iH d)<|zC (VP s (ao agY) false ad (e.set s (aB d)).2 (dV a))<|fT R (by rw[rI b,vA d];rfl)
def AQ(c)(agY):(bK c agY).1<=4/\(bK c agY).2.getD 0<=2:=by
 by_cases h:gG c=true
 .let⟨b,k,g,e,d⟩:=kJ h;rw[rI h];have a:=AP b (ao agY);refine⟨by show hj _ _<=4;omega,?_⟩;show(jY _ _).getD 0<=2
  cases hp:jY _ (ao agY)with
  |none=>exact aE _
  |some j=>
   have:=Fd hp;rw[vA (aA a)]at this;have i:=d _ (jO a);show j<=2;omega
 .unfold bK;rw[dZ h];exact⟨aE _,aE _⟩
def It(c)(agY)(b:c.ok)(e:agY<=4294967295):bI C0 147 [.agg (fy c false),vU agY] (.agg (fy (tO c agY) false)):=by
 apply eb func147 R;have q:=AQ c agY;refine zC (As c agY b e)<|zB R (λj=>?_) (λj=>?_)
 .have d:(bK c agY).2.isSome=false:=sU j;exact dK R ⟨tr,tr,tr⟩ R (by rw[Dx d];rfl)
 have d:(bK c agY).2.isSome=true:=sU j;let⟨n,o,k,a⟩:=pR d;let⟨r,t,w,v,m⟩:=kJ n;refine a7<|oR 5 R ?_;let⟨s,g⟩:=d7 c.O ((bK c agY).1);have i:=b.set s (aB g);have h:=vA g;rw[h]at a;have u:s.length<=2:=oH (m s (aB g));exact ja _ _ R R (iH g) R<|oR 2 R<|aW R (q1 s ((bK c agY).2.getD 0) false a ad i.2)<|aW R (LP c ((bK c agY).1) (eY s ((bK c agY).2.getD 0)) b k ad (by rw[pP a];omega) (pQ i.2))<|a1 R<|rE 25<|ck 0 R<|dK R ⟨tr,tr,tr⟩ R (by rw[Dw d,h];rfl)
def Fe{α}{f}{l}{x:α}(h:l[0]?=some x):ku f l=l.set 0 (f x):=by
 cases l with
 |nil=>cases h
 |cons y l=>injection h with h;subst h;rfl
def GU{α}(l)(x:α)(n)(a:n=l.length):eY (l++[x]) n=x::l:=by
 subst a;rw[Cm (x:=x) (by simp)];simp
def Nh{c}(h:gG c=false)(agY)(d)(b):qZ c agY d b=(c,qE,false):=by unfold qZ;rw[dZ (by rw[h];decide)]
def Cn{c}{agY}(a:(bK c agY).2.isSome=true)(d)(b):qZ c agY d b=(rK c (bK c agY).1 (ku (λw=>{w with data:=if(dC d).size=0 then w.data else dC d,f:=w.f||b}) (eY (pF c (bK c agY).1) ((bK c agY).2.getD 0))),qE,false):=by
 unfold qZ;let⟨j,g⟩:=FH.1 a;have e:bK c agY=((bK c agY).1,some j):=by rw[<-g]
 rw[aa (pR a).1,e];rfl
def AR{c}{agY}(g:gG c=true)(a:(bK c agY).2.isSome=false)(d)(b):qZ c agY d b=if((pF c (bK c agY).1).length:Int)=c.ways then(rK c (bK c agY).1 (⟨ao agY,b,dC d⟩::(pF c (bK c agY).1).dropLast),(pF c (bK c agY).1).getLast?.getD qE,true)else(rK c (bK c agY).1 (⟨ao agY,b,dC d⟩::pF c (bK c agY).1),qE,false):=by
 unfold qZ;have h:(bK c agY).2=none:=sU a;have e:bK c agY=((bK c agY).1,none):=by rw[<-h]
 rw[aa g,e]
abbrev C_(p:Ca×Wy×Bool):AV:=.F [.agg (fy p.1 false),.agg (a0 p.2.1),vB p.2.2]
def oc(d:ByteArray):d.toList.length=d.size:=by
 rw[ByteArray.toList_eq];exact cV
def Uk{d:ByteArray}(h: ¬d.size=0):(!(d.toList==(⟨#[]⟩:ByteArray).toList))=true:=by
 cases a:d.toList==(⟨#[]⟩:ByteArray).toList with
 |false=>rfl
 |true=>
  have:=am List.length (eq_of_beq a);rw[oc,oc]at this;exact absurd this h
def jr(d:ByteArray):(d.toList==(⟨#[]⟩:ByteArray).toList)=decide (d.size=0):=by
 by_cases h:d.size=0
 .rw[jP h];have e:d.toList=(⟨#[]⟩:ByteArray).toList:=by rw[ByteArray.toList_eq,ByteArray.toList_eq];exact gq (by rw[cV];exact h)
  rw[e];exact qw _
 rw[sW h];have:=Uk h;simpa using this
def ya{d:ByteArray}(h:(!(d.toList==(⟨#[]⟩:ByteArray).toList))=true): ¬d.size=0:=by rw[jr]at h;simpa using h
def yb{d:ByteArray}(h:(!(d.toList==(⟨#[]⟩:ByteArray).toList))=false):d.size=0:=by rw[jr]at h;simpa using h
def OO{d:ByteArray}(h: ¬d.size=16):dC d=oZ:=dZ h
def LQ{d:ByteArray}(h:d.size=16):dC d=d:=aa h
def Re(c)(agY)(a)(b)(h:c.ok)(d:agY<=4294967295):bI C0 124 [.agg (fy c false),vU agY,.v (.string a),vB b] (C_ (qZ c agY a b)):=by
 apply eb func124 R;have J:=AQ c agY;refine zC (AW c false h)<|aV R (λA=>?_) (λA=>?_)
 .have r:gG c=false:=sU A;refine qC 0 R<|zV (.agg [zU,vB false,.v (.string (⟨#[]⟩:ByteArray))]) ?_;rw[Nh r];exact fT R R
 have r:gG c=true:=sU A;let⟨H,M,O,N,v⟩:=kJ r;have o:(bK c agY).1<c.O.length:=by rw[rI r];exact AP H _
 refine o' 0 0 R<|Fq (κ:=Unit) (λI=>⟨a6 [(1,vU agY),(2,.v (.string (dC a))),(3,vB b),(4,.ptr 0 0),(8,.ptr 1 0),(9,.ptr 2 0),(10,vB false)],aq [(0,.box [vI c.ways,.Y 1 (c.O.map bX) false]),(1,.box [vI 0,.Y 0 [] true]),(2,.box [zU,vB false,.v (.string (⟨#[]⟩:ByteArray))])],7⟩) (λI=>True) ?_ ?_
 .refine qS 0 R<|rV (vN a.size) R<|zW (vB (a.size != 16)) (ak (db _ _))<|zB R (λB=>?_) (λB=>?_)
  .have F:=wM B;refine .mk _ (.refl _) ⟨(),λs=>s,au _ ⟨a9,⟨(am (λz=>AV.v (.string z)) (show(⟨#[]⟩:ByteArray)=dC a from(OO ad).symm)),R⟩,a9,a9,a9,a9,a9,tr⟩ wH R,R,tr⟩
  have F:=wN B;refine .mk _ (.refl _) ⟨(),λs=>s,au _ ⟨a9,⟨(am (λz=>AV.v (.string z)) (show a=dC a from(LQ ad).symm)),R⟩,a9,a9,a9,a9,a9,tr⟩ wH R,R,tr⟩
 intro I _;refine qC 0 R<|zC (As c agY h d)<|aV R (λC=>?_) (λC=>?_)
 .have q:(bK c agY).2.isSome=true:=sU C;have u:=(pR q).2.2.2;let⟨s,k⟩:=d7 c.O ((bK c agY).1);have e:=h.set s (aB k);have i:=vA k;have m:s.length<=2:=oH (v s (aB k));rw[i]at u;have K:=pP u;refine qC 0 R<|zX (bX s) (.k 1 0 (bX s)) R (iH k)<|zH R ((VM s ((bK c agY).2.getD 0) false ad ad e.2).Zi _ _ R) ?_;rintro _ _ ⟨rfl,rfl⟩;refine zV (vB (!((dC a).toList==(⟨#[]⟩:ByteArray).toList)))<|aV R (λD=>?_) (λD=>?_)
  .refine qC 0 R<|zM (.x 24 (0+0) 0) R (⟨dT,FF.2 (by show 0<s.length;exact ad)⟩) ?_;let⟨w,n⟩:=d7 (eY s ((bK c agY).2.getD 0)) 0;have x:=(pQ e.2) w (aB n);have y:((eY s ((bK c agY).2.getD 0)).set 0 (⟨w.S,w.f,(dC a)⟩:Wy))[0]?=some (⟨w.S,w.f,(dC a)⟩:Wy):=aZ ad;refine nM (a0 w) (h':=an _ 24 (some (.arr (((eY s ((bK c agY).2.getD 0)).set 0 (⟨w.S,w.f,(dC a)⟩:Wy)).map a0) 3))) R R R (⟨dT,Jv (iH n)⟩) (vX (l:=eY s ((bK c agY).2.getD 0)) (k:=0) (x:=(⟨w.S,w.f,(dC a)⟩:Wy)))<|lv 0 0 R<|FP<|qS 0 R<|zM (.x 24 (0+0) 0) R (⟨dT,FF.2 (by show 0<s.length;exact ad)⟩)<|FO (a0 (⟨w.S,w.f,(dC a)⟩:Wy)) (x:=vB w.f) R R R (⟨dT,Jv (iH y)⟩) R<|qR 0 R<|bO R R R (by simp)<|zM (.x 24 (0+0) 0) R (⟨dT,FF.2 (by show 0<s.length;exact ad)⟩) ?_;have P:(((eY s ((bK c agY).2.getD 0)).set 0 (⟨w.S,w.f,(dC a)⟩:Wy)).set 0 (⟨w.S,cE w.f true b,(dC a)⟩:Wy))[0]?=some (⟨w.S,cE w.f true b,(dC a)⟩:Wy):=aZ ad;refine nM (a0 (⟨w.S,w.f,(dC a)⟩:Wy)) (h':=an _ 24 (some (.arr ((((eY s ((bK c agY).2.getD 0)).set 0 (⟨w.S,w.f,(dC a)⟩:Wy)).set 0 (⟨w.S,cE w.f true b,(dC a)⟩:Wy)).map a0) 3))) R R R (⟨dT,Jv (iH y)⟩) (vX (x:=(⟨w.S,cE w.f true b,(dC a)⟩:Wy)))<|cg 0 R<| .mk _ (.step (some (24,3,(((eY s ((bK c agY).2.getD 0)).set 0 (⟨w.S,w.f,(dC a)⟩:Wy)).set 0 (⟨w.S,cE w.f true b,(dC a)⟩:Wy)).map a0)) (ee (l:=[(1,vU agY),(2,.v (.string (dC a))),(3,vB b),(4,.ptr 0 0),(8,.ptr 1 0),(9,.ptr 2 0),(10,vB false),(11,vN ((bK c agY).1)),(35,vB ((bK c agY).2.isSome)),(14,.Y 3 ((((eY s ((bK c agY).2.getD 0)).set 0 (⟨w.S,w.f,(dC a)⟩:Wy)).set 0 (⟨w.S,cE w.f true b,(dC a)⟩:Wy)).map a0) false),(44,vB (!((dC a).toList==(⟨#[]⟩:ByteArray).toList)))]) (hp:=[(0,.box [vI c.ways,.Y 1 (c.O.map bX) false]),(1,.box [vI 0,.Y 0 [] true]),(2,.box [zU,vB false,.v (.string (⟨#[]⟩:ByteArray))])]) R jb kk) (.refl _))<|qC 0 R<|aW R (LP c ((bK c agY).1) (((eY s ((bK c agY).2.getD 0)).set 0 (⟨w.S,w.f,(dC a)⟩:Wy)).set 0 (⟨w.S,cE w.f true b,(dC a)⟩:Wy)) h o ad (by first|exact ad|(rw[pP ad];exact ad)) (kt (P:=Wy.ok) (kt (P:=Wy.ok) (pQ e.2) ⟨x.S⟩) ⟨x.S⟩))<|zV (.agg [zU,vB false,.v (.string (⟨#[]⟩:ByteArray))]) ?_;rw[Cn q,i,Fe n,dZ (ya D)]
   try rw[lO]
   try rw[lO]
   exact fT R (by simp[ae,lO];rfl)
  refine o' 0 0 R<|FP<|qS 0 R<|zM (.x 24 (0+0) 0) R (⟨dT,FF.2 (by show 0<s.length;exact ad)⟩) ?_;let⟨w,n⟩:=d7 (eY s ((bK c agY).2.getD 0)) 0;refine FO (a0 w) (x:=vB w.f) R R R (⟨dT,Jv (iH n)⟩) R<|qR 0 R<|bO R R R (by simp)<|zM (.x 24 (0+0) 0) R (⟨dT,FF.2 (by show 0<s.length;exact ad)⟩) ?_;have Q:((eY s ((bK c agY).2.getD 0)).set 0 (⟨w.S,cE w.f true b,w.data⟩:Wy))[0]?=some (⟨w.S,cE w.f true b,w.data⟩:Wy):=aZ ad;refine nM (a0 w) (h':=an _ 24 (some (.arr (((eY s ((bK c agY).2.getD 0)).set 0 (⟨w.S,cE w.f true b,w.data⟩:Wy)).map a0) 3))) R R R (⟨dT,Jv (iH n)⟩) (vX (x:=(⟨w.S,cE w.f true b,w.data⟩:Wy)))<|cg 0 R<| .mk _ (.step (some (24,3,((eY s ((bK c agY).2.getD 0)).set 0 (⟨w.S,cE w.f true b,w.data⟩:Wy)).map a0)) (ee (l:=[(1,vU agY),(2,.v (.string (dC a))),(3,vB b),(4,.ptr 0 0),(8,.ptr 1 0),(9,.ptr 2 0),(10,vB false),(11,vN ((bK c agY).1)),(35,vB ((bK c agY).2.isSome)),(14,.Y 3 (((eY s ((bK c agY).2.getD 0)).set 0 (⟨w.S,cE w.f true b,w.data⟩:Wy)).map a0) false),(44,vB (!((dC a).toList==(⟨#[]⟩:ByteArray).toList)))]) (hp:=[(0,.box [vI c.ways,.Y 1 (c.O.map bX) false]),(1,.box [vI 0,.Y 0 [] true]),(2,.box [zU,vB false,.v (.string (⟨#[]⟩:ByteArray))])]) R jb kk) (.refl _))<|qC 0 R<|aW R (LP c ((bK c agY).1) ((eY s ((bK c agY).2.getD 0)).set 0 (⟨w.S,cE w.f true b,w.data⟩:Wy)) h o ad (by first|exact ad|(rw[pP ad];exact ad)) (kt (P:=Wy.ok) (pQ e.2) ⟨((pQ e.2) w (aB n)).S⟩))<|zV (.agg [zU,vB false,.v (.string (⟨#[]⟩:ByteArray))]) ?_;rw[Cn q,i,Fe n,aa (yb D)]
  try rw[lO]
  exact fT R (by simp[ae,lO];rfl)
 have q:(bK c agY).2.isSome=false:=sU C;let⟨s,k⟩:=d7 c.O ((bK c agY).1);have e:=h.set s (aB k);have i:=vA k;have m:s.length<=2:=oH (v s (aB k));refine qC 0 R<|zX (bX s) (.k 1 0 (bX s)) R (iH k)<|pO R R<|rV (.agg [zU,vB false,.v (.string (⟨#[]⟩:ByteArray))]) R<|oR 1 R<|rW (vN s.length) R (cD a0 s)<|oR 2 R<|rV (vB (((s.length:Nat):Int)==c.ways)) R<|dm 30 R R<|a1 R<|oR 1 R<|rE 33<|And.intro (by kernel_rfl)<|jk 0 R<|aV R (λj=>?_) (λj=>?_)
 .have G:=mT j
  try have t:(s.length:Int)=c.ways:=sU j
  try have t: ¬(s.length:Int)=c.ways:=sU j
  refine qC 0 R<|rW (vN s.length) R (cD a0 s) ?_;have S:s.length-1<=2:=aL (jT _ _) m;refine zW (vN (s.length-1)) (ap (DA ad m R))<|pO R R<|oR 2 R ?_;let⟨g,E⟩:=d7 s (s.length-1);have L:=e.2 g (aB E);refine ja (a0 g) (.k 3 0 (a0 g)) R R (iH E) R<|oR 3 R<|nW (.Y 3 ((s.take (s.length-1)).map a0) false) R (yB (vY a0 s (s.length-1))) g_<|a1 R<|oR 1 R<|rE 47<|And.intro (by kernel_rfl)<|qX 0 R<|rW (vN (s.length-1)) R (vW a0 (s.take (s.length-1)) ad) ?_;refine rW (vN ((s.length-1)+1)) R (ap (bH (aD (by have:=m;exact ad) (aC 1)) R))<|zF R (⟨dT,FG.2 ad,by show((((s.length-1)+1):Nat):Int)<=1000000;omega⟩)<|eo R R (iP a0 ([]:List Wy) (s.take (s.length-1)) ad ad) (⟨by exact ad,by exact ad,tr⟩)<|lv 0 0 R<|FP<|qS 0 R<|zC (tN agY d)<|rV (.agg [vU (ao agY),vB b,.v (.string (dC a))]) R<|rV (.Y 3 ([[vU (ao agY),vB b,.v (.string (dC a))]]) true) R<|zF (iP a0 (s.take (s.length-1)) ([(⟨ao agY,b,(dC a)⟩:Wy)]) ad ad) (⟨by exact ad,by exact ad,tr⟩)<| .mk _ (.step (some (63,3,((s.take (s.length-1))++([(⟨ao agY,b,(dC a)⟩:Wy)])).map a0)) (ee (l:=[(4,.ptr 0 0),(8,.ptr 1 0),(9,.ptr 2 0),(10,vB false),(11,vN ((bK c agY).1)),(35,vB ((bK c agY).2.isSome)),(15,.Y 3 ((s.take (s.length-1)).map a0) false),(16,.ptr 30 0),(17,vB (((s.length:Nat):Int)==c.ways)),(75,vB (((s.length:Nat):Int)==c.ways)),(19,.Y 3 (((s.take (s.length-1))++([(⟨ao agY,b,(dC a)⟩:Wy)])).map a0) false)]) (hp:=[(0,.box [vI c.ways,.Y 1 (c.O.map bX) false]),(1,.box [vI 0,.Y 0 [] true]),(2,.box [zU,vB false,.v (.string (⟨#[]⟩:ByteArray))]),(30,.box (a0 g))]) R jb kk) (.refl _))<|j4 0 R<|pO R R<|oR 4 R<|rW (vN (s.length-1)) R (vW a0 (s.take (s.length-1)) ad)<|aW R (q1 ((s.take (s.length-1))++([(⟨ao agY,b,(dC a)⟩:Wy)])) (s.length-1) false ad ad (sJ (zD e.2) (sK (P:=Wy.ok) ⟨(dV d)⟩)))<|aW R (LP c ((bK c agY).1) (eY ((s.take (s.length-1))++([(⟨ao agY,b,(dC a)⟩:Wy)])) (s.length-1)) h o ad (by first|exact ad|(rw[pP ad];exact ad)) (pQ (sJ (zD e.2) (sK (P:=Wy.ok) ⟨(dV d)⟩))))<|oR 2 R<|a1 R<|a1 R<|oR 1 R<|rE 77<|And.intro (by kernel_rfl)<|ck 0 R ?_;rw[AR r q,i,aa t];apply fT R;rw[GU _ _ _ ad,j,<-j0,show s.getLast?.getD qE=g from by rw[oX,E];rfl]
  try rfl
 have G:=nA j
 try have t:(s.length:Int)=c.ways:=sU j
 try have t: ¬(s.length:Int)=c.ways:=sU j
 refine qC 0 R<|rW (vN s.length) R (cD a0 s) ?_;refine rW (vN (s.length+1)) R (ap (bH (aD m (aC 1)) R))<|zF R (⟨dT,FG.2 ad,by show(((s.length+1):Nat):Int)<=1000000;omega⟩)<|eo R R (iP a0 ([]:List Wy) s ad ad) (⟨by exact ad,by exact ad,tr⟩)<|lv 0 0 R<|FP<|qS 0 R<|zC (tN agY d)<|rV (.agg [vU (ao agY),vB b,.v (.string (dC a))]) R<|rV (.Y 3 ([[vU (ao agY),vB b,.v (.string (dC a))]]) true) R<|zF (iP a0 s ([(⟨ao agY,b,(dC a)⟩:Wy)]) ad ad) (⟨by exact ad,by exact ad,tr⟩)<| .mk _ (.step (some (50,3,(s++([(⟨ao agY,b,(dC a)⟩:Wy)])).map a0)) (ee (l:=[(4,.ptr 0 0),(8,.ptr 1 0),(9,.ptr 2 0),(10,vB false),(11,vN ((bK c agY).1)),(35,vB ((bK c agY).2.isSome)),(15,.Y 3 (s.map a0) false),(16,.ptr 30 0),(17,vB (((s.length:Nat):Int)==c.ways)),(75,vB (((s.length:Nat):Int)==c.ways)),(19,.Y 3 ((s++([(⟨ao agY,b,(dC a)⟩:Wy)])).map a0) false)]) (hp:=[(0,.box [vI c.ways,.Y 1 (c.O.map bX) false]),(1,.box [vI 0,.Y 0 [] true]),(2,.box [zU,vB false,.v (.string (⟨#[]⟩:ByteArray))]),(30,.box [zU,vB false,.v (.string (⟨#[]⟩:ByteArray))])]) R jb kk) (.refl _))<|j4 0 R<|pO R R<|oR 4 R<|rW (vN s.length) R (cD a0 s)<|aW R (q1 (s++([(⟨ao agY,b,(dC a)⟩:Wy)])) s.length false ad ad (sJ e.2 (sK (P:=Wy.ok) ⟨(dV d)⟩)))<|aW R (LP c ((bK c agY).1) (eY (s++([(⟨ao agY,b,(dC a)⟩:Wy)])) s.length) h o ad (by first|exact ad|(rw[pP ad];exact ad)) (pQ (sJ e.2 (sK (P:=Wy.ok) ⟨(dV d)⟩))))<|oR 2 R<|a1 R<|a1 R<|oR 1 R<|rE 64<|And.intro (by kernel_rfl)<|ck 0 R ?_;rw[AR r q,i,dZ t];apply fT R;rw[GU _ _ _ ad,j]
 try rfl
def Xn{a:Nat}(h:a<=4294967295):IntKind.wrap .u32 ((a:Int)-((ao a:Nat):Int))=((a%16:Nat):Int):=by
 rw[Gn (dV h) R];have:(a+4294967296-ao a)%4294967296=a%16:=by unfold ao;omega
 rw[this]
def Ul{c:Ca}{k j:Nat}{s:List Wy}{x:Wy}(a:gG c=true)(b:c.O[k]?=some s)(d:s[j]?=some x):x.data.size=0\/x.data.size=16:=
 (((jX c k s).1 (((jL c).1 a).2 k s b)).2 j x d).2.2.1
def GV{c}{a}(b)(d:(bK c a).2.isSome=false):xL c a b=(c,false):=by
 unfold xL;have g:(bK c a).2=none:=sU d;have e:bK c a=((bK c a).1,none):=by rw[<-g]
 rw[e]
def At{c}{a}{s}{x}(b)(k:(bK c a).2.isSome=true)(h:pF c (bK c a).1=s)(d:s[(bK c a).2.getD 0]?=some x):
  xL c a b=if x.data.size=0\/b.size+a%16>16 then(c,false)else(rK c (bK c a).1 (ku (λw=>{w with data:=Fk w.data (a%16) b,f:=true}) (eY s ((bK c a).2.getD 0))),true):=by
 unfold xL;let⟨j,g⟩:=FH.1 k;have e:bK c a=((bK c a).1,some j):=by rw[<-g]
 rw[g]at d⊢;have m:(pF c (bK c a).1)[j]?=some x:=by rw[h];exact d
 rw[e];have i:s[j]?=some x:=d;simp only[h,i];rfl
def Rf{α}{l}{k}{x:α}(h:l[k]?=some x):(eY l k)[0]?=some x:=by rw[Cm h];rfl
abbrev T8(p:Ca×Bool):AV:=.F [.agg (fy p.1 false),vB p.2]
def Um(c)(a)(bytes)(i:c.ok)(b:a<=4294967295):bI C0 192 [.agg (fy c false),vU a,.v (.string bytes)] (T8 (xL c a bytes)):=by
 apply eb func192 R;have F:=AQ c a;refine zC (As c a i b)<|aV R (λo=>?_) (λo=>?_)
 .have h:(bK c a).2.isSome=false:=sU o;apply jj 0 R;rw[GV bytes h];exact fT R R
 have h:(bK c a).2.isSome=true:=sU o;let⟨u,E,t,m⟩:=pR h;let⟨H,I,L,K,v⟩:=kJ u;let⟨s,e⟩:=d7 c.O ((bK c a).1);have d:=i.set s (aB e);have j:=vA e;rw[j]at m;have J:s.length<=2:=oH (v s (aB e));have G:=pP m;refine qC 0 R<|zX (bX s) (.k 1 0 (bX s)) R (iH e) ?_;let⟨x,g⟩:=d7 s ((bK c a).2.getD 0);have N:=d.2 x (aB g);have O:=Ul u e g;refine zX (a0 x) (.k 3 0 (a0 x)) R (iH g)<|aW R (tN a b) ?_;have r:a%16<=15:=oT;refine rW _ R (ap (Xn b))<|zW _ (ap (bH r R))<|zV (vB (x.data.toList==(⟨#[]⟩:ByteArray).toList))<|gn (x:=vN bytes.size) R id R ?_;have P:16-(a%16)<=16:=aL (jT _ _) (aC 16);refine aw R id (ap (DA ad (aC 16) R))<|aw R b9 (ak (fq _ _))<|zN R (by simp)<|zB R (λq=>?_) (λq=>?_)
 .have C:(x.data.size=0\/bytes.size>16-a%16):=by have z:=q;rw[jr]at z;simp only[ae,dE,aY,dP,mA]at z;omega
  rw[At bytes h j g,aa ad];exact fT R R
 have C: ¬(x.data.size=0\/bytes.size>16-a%16):=by have z:=q;rw[jr]at z;simp only[ae,dE,aY,dP,mA]at z;omega
 have D:x.data.size=16:=oT;have B:bytes.size<=16-a%16:=oT;refine zX (bX s) (.k 1 0 (bX s)) R (iH e)<|zH R ((VM s ((bK c a).2.getD 0) false ad ad d.2).Zi _ _ R) ?_;rintro _ _ ⟨rfl,rfl⟩;refine a7<|oR 3 R<|nW (.v (.string (x.data.extract 0 (a%16)))) R R (by refine⟨?_,?_,?_⟩<;>(first|exact aG _|decide|(apply FG.2;exact ad)))<|oR 1 rfl<|nW (.v (.string ((x.data.extract 0 (a%16))++bytes))) rfl rfl (by show(_:Int)<=9223372036854775807;simp[kH,dA];omega)<|oR 3 rfl<|rV (vN bytes.size) rfl ?_;refine rW _ rfl (ap (bH (aD r (oT:bytes.size<=16)) rfl))<|nW (.v (.string (x.data.extract ((a%16)+bytes.size) x.data.size))) rfl rfl (by refine⟨?_,?_,?_⟩<;>(first|exact aG _|decide|(apply FG.2;exact ad)))<|nW (.v (.string (((x.data.extract 0 (a%16))++bytes)++(x.data.extract ((a%16)+bytes.size) x.data.size)))) rfl rfl (by show(_:Int)<=9223372036854775807;simp[kH,dA];omega)<|nW (.x 46 (0+0) 0) rfl rfl (⟨dT,FF.2 (by show 0<s.length;exact ad)⟩)<|oR 1 rfl ?_;let⟨w,k⟩:=d7 (eY s ((bK c a).2.getD 0)) 0;have n:=(pQ d.2) w (aB k);have A:w=x:=fj (k.symm.trans (Rf g));have y:((eY s ((bK c a).2.getD 0)).set 0 (⟨w.S,w.f,((x.data.extract 0 (a%16))++bytes)++(x.data.extract ((a%16)+bytes.size) x.data.size)⟩:Wy))[0]?=some (⟨w.S,w.f,((x.data.extract 0 (a%16))++bytes)++(x.data.extract ((a%16)+bytes.size) x.data.size)⟩:Wy):=aZ ad;refine nM (a0 w) (h':=an _ 46 (some (.arr (((eY s ((bK c a).2.getD 0)).set 0 (⟨w.S,w.f,((x.data.extract 0 (a%16))++bytes)++(x.data.extract ((a%16)+bytes.size) x.data.size)⟩:Wy)).map a0) 3))) R R R (⟨dT,Jv (iH k)⟩) (vX (l:=eY s ((bK c a).2.getD 0)) (k:=0) (x:=(⟨w.S,w.f,((x.data.extract 0 (a%16))++bytes)++(x.data.extract ((a%16)+bytes.size) x.data.size)⟩:Wy)))<|rE 64<|xr 0 0 R<|FP<|qS 0 R<|zM (.x 46 (0+0) 0) R (⟨dT,FF.2 (by show 0<s.length;exact ad)⟩) ?_;have M:(((eY s ((bK c a).2.getD 0)).set 0 (⟨w.S,w.f,((x.data.extract 0 (a%16))++bytes)++(x.data.extract ((a%16)+bytes.size) x.data.size)⟩:Wy)).set 0 (⟨w.S,true,((x.data.extract 0 (a%16))++bytes)++(x.data.extract ((a%16)+bytes.size) x.data.size)⟩:Wy))[0]?=some (⟨w.S,true,((x.data.extract 0 (a%16))++bytes)++(x.data.extract ((a%16)+bytes.size) x.data.size)⟩:Wy):=aZ ad
 refine nM (a0 (⟨w.S,w.f,((x.data.extract 0 (a%16))++bytes)++(x.data.extract ((a%16)+bytes.size) x.data.size)⟩:Wy)) (h':=an _ 46 (some (.arr ((((eY s ((bK c a).2.getD 0)).set 0 (⟨w.S,w.f,((x.data.extract 0 (a%16))++bytes)++(x.data.extract ((a%16)+bytes.size) x.data.size)⟩:Wy)).set 0 (⟨w.S,true,((x.data.extract 0 (a%16))++bytes)++(x.data.extract ((a%16)+bytes.size) x.data.size)⟩:Wy)).map a0) 3))) R R R (⟨dT,Jv (iH y)⟩) (vX (x:=(⟨w.S,true,((x.data.extract 0 (a%16))++bytes)++(x.data.extract ((a%16)+bytes.size) x.data.size)⟩:Wy)))<|cg 0 R<| .mk _ (.step (some (46,3,(((eY s ((bK c a).2.getD 0)).set 0 (⟨w.S,w.f,((x.data.extract 0 (a%16))++bytes)++(x.data.extract ((a%16)+bytes.size) x.data.size)⟩:Wy)).set 0 (⟨w.S,true,((x.data.extract 0 (a%16))++bytes)++(x.data.extract ((a%16)+bytes.size) x.data.size)⟩:Wy)).map a0)) (ee (l:=[(3,.ptr 0 0),(6,.ptr 1 0),(7,vB false),(8,vN ((bK c a).1)),(22,vB (!((bK c a).2.isSome))),(46,vB (cE (x.data.toList==(⟨#[]⟩:ByteArray).toList) true (decide (bytes.size>(16-(a%16)))))),(13,.Y 3 ((((eY s ((bK c a).2.getD 0)).set 0 (⟨w.S,w.f,((x.data.extract 0 (a%16))++bytes)++(x.data.extract ((a%16)+bytes.size) x.data.size)⟩:Wy)).set 0 (⟨w.S,true,((x.data.extract 0 (a%16))++bytes)++(x.data.extract ((a%16)+bytes.size) x.data.size)⟩:Wy)).map a0) false)]) (hp:=[(0,.box [vI c.ways,.Y 1 (c.O.map bX) false]),(1,.box [vI 0,.Y 0 [] true])]) R jb kk) (.refl _))<|qC 0 R<|zC (LP c ((bK c a).1) (((eY s ((bK c a).2.getD 0)).set 0 (⟨w.S,w.f,((x.data.extract 0 (a%16))++bytes)++(x.data.extract ((a%16)+bytes.size) x.data.size)⟩:Wy)).set 0 (⟨w.S,true,((x.data.extract 0 (a%16))++bytes)++(x.data.extract ((a%16)+bytes.size) x.data.size)⟩:Wy)) i t ad (by first|exact ad|(rw[pP ad];exact ad)) (kt (kt (pQ d.2) ⟨n.S⟩) ⟨n.S⟩)) ?_;subst A;rw[At bytes h j g,dZ ad,Fe k];exact fT rfl (by first|rfl|(simp[lO];rfl))
def OP{α}{f}{l:List α}{k}{x}(h:l[k]?=some x):l.modify k f=l.set k (f x):=by
 apply dD;intro i;rw[oD,mV];obtain⟨a,rfl⟩:=Em.1 h;by_cases e:k=i
 .subst e;simp[a]
 simp[e]
def Dy{c}{agY}{s}(b:(bK c agY).2.isSome=true)(d:pF c (bK c agY).1=s):wB c agY=rK c (bK c agY).1 (s.modify ((bK c agY).2.getD 0) λw=>{w with f:=false}):=by
 unfold wB;let⟨j,a⟩:=FH.1 b;have e:bK c agY=((bK c agY).1,some j):=by rw[<-a]
 rw[a,e];simp only[d];rfl
def Dz{c}{agY}(a:(bK c agY).2.isSome=false):wB c agY=c:=by
 unfold wB;have b:(bK c agY).2=none:=sU a;have e:bK c agY=((bK c agY).1,none):=by rw[<-b]
 rw[e]
def Iu(c)(agY)(a:c.ok)(e:agY<=4294967295):bI C0 151 [.agg (fy c false),vU agY] (.agg (fy (wB c agY) false)):=by
 apply eb func151 R;have r:=AQ c agY;refine zC (As c agY a e)<|aV R (λj=>?_) (λj=>?_)
 .have d:(bK c agY).2.isSome=false:=sU j;apply jj 0 R;rw[Dz d];exact dK R ⟨tr,tr,tr⟩ R R
 have d:(bK c agY).2.isSome=true:=sU j;let⟨o,q,m,g⟩:=pR d;let⟨u,v,z,y,n⟩:=kJ o;let⟨s,b⟩:=d7 c.O ((bK c agY).1);have i:=a.set s (aB b);have h:=vA b;rw[h]at g;have w:s.length<=2:=oH (n s (aB b));have t:=pP g;refine qC 0 R<|zX (bX s) (.k 1 0 (bX s)) R (iH b)<|rW _ R (cD a0 s)<|zF (x:=.X 20 0 s.length false) (h':=an _ 20 (some (.arr ((List.replicate s.length qE).map a0) 3))) (Ri (fH (f:=a0) (a:=qE)).symm) (⟨aG _,FG.2 ad,by show((s.length:Nat):Int)<=1000000;omega⟩)<|zX (bX s) (.k 1 0 (bX s)) R (iH b)<|eo (x:=vI ((min ((s.map a0).length) (s.length):Nat):Int)) (h':=an _ 20 (some (.arr (s.map a0) 3))) R R (II (DX a0 ((List.replicate s.length qE).map a0) s ad ad)) (⟨by exact ad,tr⟩)<|lv 0 0 R<|FP<|qS 0 R<|zM (.x 20 (0+((bK c agY).2.getD 0)) 0) R (⟨aG _,FF.2 (by show((bK c agY).2.getD 0)<s.length;exact ad)⟩) ?_;let⟨x,k⟩:=d7 s ((bK c agY).2.getD 0);have A:(s.set ((bK c agY).2.getD 0) (⟨x.S,false,x.data⟩:Wy))[((bK c agY).2.getD 0)]?=some (⟨x.S,false,x.data⟩:Wy):=aZ ad;refine nM (a0 x) (h':=an _ 20 (some (.arr ((s.set ((bK c agY).2.getD 0) (⟨x.S,false,x.data⟩:Wy)).map a0) 3))) R R R (⟨aG _,Jv (iH k)⟩) (vX (f:=a0) (x:=(⟨x.S,false,x.data⟩:Wy)))<|cg 0 R<| .mk _ (.step (some (20,3,(s.set ((bK c agY).2.getD 0) (⟨x.S,false,x.data⟩:Wy)).map a0)) (ee (l:=[(2,.ptr 0 0),(4,.ptr 1 0),(5,vN ((bK c agY).1)),(17,vB (!((bK c agY).2.isSome))),(8,.Y 3 ((s.set ((bK c agY).2.getD 0) (⟨x.S,false,x.data⟩:Wy)).map a0) false)]) (hp:=[(0,.box [vI c.ways,.Y 1 (c.O.map bX) false]),(1,.box [vI 0,.Y 0 [] true])]) R jb kk) (.refl _))<|qC 0 R<|zC (LP c ((bK c agY).1) (s.set ((bK c agY).2.getD 0) (⟨x.S,false,x.data⟩:Wy)) a m ad ad (kt i.2 ⟨(i.2 x (aB k)).S⟩)) ?_;rw[Dy d h,OP k];exact dK R ⟨tr,tr,tr⟩ R R
section
variable {α:Type}{p:α->Bool}
def Rg{l:List α}{k}{x}(b:l[k]?=some x)(a:p x=false)(h:(l.take k).find? p=none):(l.take (k+1)).find? p=none:=by
 rw[bW,b,iZ,h];simp[a]
def Rh{l:List α}{k}{x}(a:l[k]?=some x)(hp:p x=true)(h:(l.take k).find? p=none):l.find? p=some x:=by
 have e:l=l.take (k+1)++l.drop (k+1):=(j' _ _).symm;rw[e,iZ,bW,a,iZ,h];simp[hp]
def Un{l:List α}{k}(a:l.length<=k)(h:(l.take k).find? p=none):l.find? p=none:=by rwa [aN a]at h
def Xo{L:List (List α)}{k}{s}(b:L[k]?=some s)(a:s.find? p=none)(h:(L.take k).flatten.find? p=none):(L.take (k+1)).flatten.find? p=none:=by
 rw[bW,b,p',iZ,h];simpa using a
def Xp{L:List (List α)}{k}{s}{x}(b:L[k]?=some s)(a:s.find? p=some x)(h:(L.take k).flatten.find? p=none):L.flatten.find? p=some x:=by
 have e:L=L.take (k+1)++L.drop (k+1):=(j' _ _).symm;rw[e,p',iZ,bW,b,p',iZ,h];simp[a]
end
abbrev S8(o:Option Wy):AV:=.F [.agg (a0 (o.getD qE)),vB o.isSome]
def q0(c)(h:c.ok):bI C0 150 [.agg (fy c false)] (S8 (cR c)):=by
 refine bc func150 R<|zC (AW c false h)<|zB R (λi=>?_) (λi=>?_)
 .have a:gG c=false:=sU i;refine zV (.agg [zU,vB false,.v (.string (⟨#[]⟩:ByteArray))]) ?_;rw[show cR c=none from by unfold cR;rw[dZ (by rw[a];decide)]];exact fT R R
 have a:gG c=true:=sU i;let⟨C,D,G,F,v⟩:=kJ a;refine zW _ (cD bX c.O)<|dk (λk=>⟨a6 [(2,.ptr 1 0),(10,vB (!(gG c))),(13,.Y 1 (c.O.map bX) false),(14,vN c.O.length),(15,vN k)],aq [(0,.box [vI c.ways,.Y 1 (c.O.map bX) false]),(1,.box [zU,vB false,.v (.string (⟨#[]⟩:ByteArray))])],10⟩) (λk=>k<=c.O.length/\(c.O.take k).flatten.find? (·.f)=none) (λk=>c.O.length-k) 0 (λs=>s) (au (λs=>s) wT wH R) ⟨aE _,R⟩ ?_;intro k e;have B:k<=c.O.length:=e.1;refine b0 (ak (bl _ _)) (λm=>?_) (λm=>?_)
 .have q:=ax m;let⟨s,b⟩:=d7 c.O k;have u:=h.set s (aB b);have E:s.length<=2:=oH (v s (aB b));refine zX (bX s) (.k 1 0 (bX s)) R (iH b)<|zW _ (cD a0 s)<|dk (λj=>⟨a6 [(2,.ptr 1 0),(10,vB (!(gG c))),(13,.Y 1 (c.O.map bX) false),(14,vN c.O.length),(15,vN k),(16,vB (decide (k<c.O.length))),(17,.k 1 0 (bX s)),(18,.Y 3 (s.map a0) false),(5,.Y 3 (s.map a0) false),(19,.Y 3 (s.map a0) false),(20,vN s.length),(21,vN j)],aq [(0,.box [vI c.ways,.Y 1 (c.O.map bX) false]),(1,.box [zU,vB false,.v (.string (⟨#[]⟩:ByteArray))])],17⟩) (λj=>j<=s.length/\(s.take j).find? (·.f)=none) (λj=>s.length-j) 0 (λs=>s) (au (λs=>s) wT wH R) ⟨aE _,R⟩ ?_;intro j d;have A:j<=s.length:=d.1;have t:j<=1000000:=oT;refine b0 (ak (bl _ _)) (λn=>?_) (λn=>?_)
  .have r:=ax n;let⟨x,g⟩:=d7 s j;have H:=u.2 x (aB g);refine zX (a0 x) (.k 3 0 (a0 x)) R (iH g)<|zB R (λo=>?_) (λo=>?_)
   .rw[show cR c=some x from by unfold cR;rw[aa a];exact Xp b (Rh g o d.2) e.2];exact fT R R
   skip
   have w:j+1<=1000001:=aD t (aC 1);refine zW _ (ap (bH w R)) ?_;refine⟨j+1,λs=>s,au _ wT wH R,⟨oT,Rg g o d.2⟩,c7⟩
  have r:=aF n;have y:k+1<=1000001:=aD oT (aC 1);refine zW _ (ap (bH y R)) ?_;refine⟨k+1,λs=>s,au _ wT wH R,⟨oT,Xo b (Un ad d.2) e.2⟩,c7⟩
 have q:=aF m;apply zV (.agg [zU,vB false,.v (.string (⟨#[]⟩:ByteArray))]);rw[show cR c=none from by unfold cR;rw[aa a];have z:=e.2;rwa [aN ad]at z];exact fT R R
def Kn(m)(p):(BE m p).size=m.size:=by
 unfold BE;split
 .simp[kH,dA];omega
 rfl
def iY(m)(l):(rP m l).size=m.size:=by
 unfold rP
 induction l generalizing m with
 |nil=>rfl
 |cons p l ih=>rw[mK,ih,Kn]
def GS{m}{l:List Pt}{k}{x}(a:l[k]?=some x):rP m (l.take (k+1))=BE (rP m (l.take k)) x:=by
 unfold rP;rw[bW,a];simp
def Xl(s:ByteArray):aS s=s.data.toList.map λb=>[AV.v (.int .u8 (b.toNat:Int))]:=rfl
def Uh(a b:ByteArray):(a++b).data.toList=a.data.toList++b.data.toList:=by simp
def Ui(a:ByteArray)(i j):(a.extract i j).data.toList=(a.data.toList.take j).drop i:=by
 rw[ByteArray.data_extract,nY,List.extract_eq_take_drop,List.drop_take]
def QW{m}{p}{n}(h:p.W<m.size)(c:n=m.size-p.W):(aS m).take (0+p.W)++(aS p.data).take (min (aS p.data).length n)++(aS m).drop (0+p.W+min (aS p.data).length n)=aS (BE m p):=by
 subst c;unfold BE;rw[aa h,bJ,qV];simp only[Xl,Uh,Ui,dH,eO,kM,bS];have a:(m.data.toList.map λb=>[AV.v (.int .u8 (b.toNat:Int))]).length=m.size:=by rw[aH];exact cV
 rw[<-a,cH]
def ON{m:ByteArray}{p:Pt}(h: ¬p.W<m.size):BE m p=m:=dZ h
def Nc(m)(n)(h:m.size<=n):gU (List.take n (List.drop 0 (aS m)))=some m.data.toList:=by
 rw[bS,aN (by rw[qV];exact h)];exact lN _
def QX(m)(l)(e)(j:m.size<=1000000)(v:l.length<=1000000)(t:∀x∈l,x.ok):bI C0 126 [.v (.string m),.Y 2 (l.map ay) e] (.v (.string (rP m l))):=by
 refine eb func126 R<|zF R ((by show m.size<=1000000;exact j))<|zW (vN l.length) (cD ay l)<|dk (λk=>⟨a6 [(4,.v (.string (⟨#[]⟩:ByteArray))),(5,.X 2 0 m.size false),(10,.Y 2 (l.map ay) e),(11,vN l.length),(12,vN k)],aq [(2,.arr (aS (rP m (l.take k))) 1)],7⟩) (λk=>k<=l.length) (λk=>l.length-k) 0 (λs=>s) (au (λs=>s) wT wH R) (aE _) ?_;intro k r;have u:k<=l.length:=r;have b:k<=1000000:=oT;refine zW (vB (decide (k<l.length))) (ak (bl _ _))<|zB R (λc=>?_) (λc=>?_)
 .have g:=ax c;let⟨x,a⟩:=d7 l k;have n:=t x (aB a);refine zX (ay x) (.k 2 0 (ay x)) R (iH a)<|zW (.v (.int .u64 ((x.W:Nat):Int))) (ap (nJ n.W R))<|rV (vN m.size) R<|rW (.v (.int .u64 ((m.size:Nat):Int))) R (ap (nJ j R))<|zW (vB (decide (x.W<m.size))) (ak (bl _ _))<|aV R (λd=>?_) (λd=>?_)
  .have h:=ax d;refine zR<|zM (.X 2 (0+x.W) (m.size-x.W) false) (LR (by first|rfl|omega) (by simp only[Option.getD];omega)) g_ ?_;have i:x.W<(rP m (l.take k)).size:=by rw[iY];omega
   refine zF (h':=an _ 2 (some (.arr (aS (rP m (l.take (k+1)))) 1))) (II (by rw[GS a];exact QW i (by rw[iY]))) (⟨by show 0+x.W+(m.size-x.W)<=(aS (rP m (l.take k))).length;rw[qV,iY];omega,tr⟩) ?_;have o:k+1<=1000001:=aD b (aC 1);refine zW (vN (k+1)) (ap (bH o R)) ?_;refine⟨k+1,λs=>s,au _ wT wH R,oT,c7⟩
  have h:=aF d;have q:k+1<=1000001:=aD b (aC 1);refine qC 0 R<|zW (vN (k+1)) (ap (bH q R)) ?_;refine⟨k+1,λs=>s,au _ wT ⟨⟨R,(am (λz=>some (a'.arr (aS z) 1)) (show rP m (l.take k)=rP m (l.take (k+1))from by rw[GS a,ON (by rw[iY];omega)])),R⟩,tr⟩ R,oT,c7⟩
 have g:=aF c;exact SV ((rP m (l.take k)).data.toList) R R R ((by show 0+m.size<=(aS (rP m (l.take k))).length;rw[qV,iY];omega)) (Nc _ _ (by rw[iY];exact aC _))<|cg 0 R<|fT R (by rw[aN (oT:l.length<=k)];rfl)
def AO{q:List bp}{k}{x}(a:q[k]?=some x)(h:x.kind=4):fP (q.take k)++[⟨x.S,x.data⟩]=fP (q.take (k+1)):=by
 unfold fP;rw[bW,a];simp[mL,h]
def Fb{q:List bp}{k}{x}(a:q[k]?=some x)(h: ¬x.kind=4):fP (q.take k)=fP (q.take (k+1)):=by
 unfold fP;rw[bW,a];simp[mL,h]
def Ko(q):(fP q).length<=q.length:=by unfold fP;rw[aH];exact List.length_filter_le _ _
def QY{q:List bp}(h:∀x∈q,x.ok):∀x∈fP q,x.ok:=λx a=>by
 unfold fP at a;obtain⟨y,b,rfl⟩:=pG.1 a;exact⟨(h y (List.mem_filter.1 b).1).S⟩
def Nd(m)(c:m.size<=1000000):bI C0 126 [.v (.string m),.Y 0 [] true] (.v (.string m)):=by
 refine eb func126 R<|zF R ((by show m.size<=1000000;exact c))<|zV _<|dk (λa=>⟨a6 [(5,.X 2 0 m.size false),(10,.Y 0 _ true),(11,vI 0),(12,vI 0)],aq [(2,.arr _ 1)],7⟩) (λa=>True) (λa=>0) () (λs=>s) (au (λs=>s) wT wH R) tr ?_;intro a _;exact de (decide (0<0)) (λb=>by simp at b) (λ_=>(SV _ R R R ((by show 0+m.size<=(aS m).length;rw[qV];omega)) (Nc _ _ (aC _))<|cg 0 R<|fT R R))
def QZ(q)(m)(h)(t:m.size<=1000000)(E:q.length<=900000)(v:∀x∈q,x.ok):bI C0 204 [.Y 4 (q.map bv) h,.v (.string m)] (.v (.string (jZ q m))):=by
 refine eb func204 R<|zW _ (cD bv q)<|dk (κ:=Nat×Bool) (λc=>match c with|(k,false)=>⟨a6 [(1,.v (.string m)),(4,.v (.string (⟨#[]⟩:ByteArray))),(8,.Y 4 (q.map bv) h),(9,vN q.length),(10,vN k),(5,.Y 0 [] true)],aq [],6⟩|(k,true)=>⟨a6 [(1,.v (.string m)),(4,.v (.string (⟨#[]⟩:ByteArray))),(8,.Y 4 (q.map bv) h),(9,vN q.length),(10,vN k),(5,.X 5 0 ((fP (q.take k)).length) false)],aq [(5,.arr ((fP (q.take k)).map ay) 2)],6⟩) (λc=>match c with|(k,false)=>(k<=q.length/\fP (q.take k)=[])|(k,true)=>(k<=q.length)) (λc=>q.length-c.1) (0,false) (λs=>s) (au (λs=>s) wT tr R) (⟨aE _,(show fP (q.take 0)=[]from R)⟩) ?_;intro c C;let⟨k,A⟩:=c;cases A
 all_goals
  have e:=C
  first|have u:k<=q.length:=e.1|have u:k<=q.length:=e
  have g:k<=1000000:=oT
  first|have d:fP (q.take k)=[]:=e.2|(have B:(fP (q.take k)).length<=900000:=(by have:=Ko (q.take k);rw[aM]at this;omega))
  refine b0 (ak (bl _ _)) (λj=>?_) (λj=>?_)
  .have o:=ax j;let⟨x,b⟩:=d7 q k;have D:=v x (aB b);refine zX (bv x) (.k 4 0 (bv x)) R (iH b)<|de (x.kind==4) (λn=>?_) (λn=>?_)
   .have a:=mT n;refine rV (.agg [vU x.S,.v (.string x.data)]) R<|rV (.Y 2 ([[vU x.S,.v (.string x.data)]]) true) R ?_
    first|refine zF (Iw ad) ⟨rfl,by exact ad,by exact ad,trivial⟩ ?_|refine zF (iP ay (fP (q.take k)) ([(⟨x.S,x.data⟩:Pt)]) ad ad) ⟨by exact ad,by exact ad,trivial⟩ ?_
    have w:k+1<=1000001:=aD g (aC 1);refine zW _ (ap (bH w R)) ?_
    first|(refine⟨(k+1,true),λi=>match i with|5=>21|i=>i,au _ ⟨a9,a9,a9,a9,a9,⟨(show AV.X 21 0 1 false=AV.X 21 0 (fP (q.take (k+1))).length false from by rw[<-(show [(⟨x.S,x.data⟩:Pt)]=fP (q.take (k+1))from(by rw[<-(AO b a),d];rfl))];first|done|rfl|(congr 1<;>(first|exact ad|simp))),rfl⟩,trivial⟩ ⟨⟨rfl,(am (λz:List Pt=>some (a'.arr (z.map ay) 2)) (show [(⟨x.S,x.data⟩:Pt)]=fP (q.take (k+1))from(by rw[<-(AO b a),d];rfl))),R⟩,tr⟩ R,oT,c7⟩)|(refine⟨(k+1,true),λi=>match i with|5=>21|i=>i,au _ ⟨a9,a9,a9,a9,a9,⟨(show AV.X 21 0 ((fP (q.take k)).length+1) false=AV.X 21 0 (fP (q.take (k+1))).length false from by rw[<-(show(fP (q.take k))++([(⟨x.S,x.data⟩:Pt)])=fP (q.take (k+1))from AO b a)];first|done|rfl|(congr 1<;>(first|exact ad|simp))),rfl⟩,trivial⟩ ⟨⟨rfl,(am (λz:List Pt=>some (a'.arr (z.map ay) 2)) (show(fP (q.take k))++([(⟨x.S,x.data⟩:Pt)])=fP (q.take (k+1))from AO b a)),R⟩,tr⟩ R,oT,c7⟩)
   have a:=nA n;have y:k+1<=1000001:=aD g (aC 1);refine zW _ (ap (bH y R)) ?_
   first|(refine⟨(k+1,false),λi=>i,au _ wT tr R,⟨oT,(by rw[<-(Fb b a)];exact d)⟩,c7⟩)|(refine⟨(k+1,true),λi=>i,au _ ⟨a9,a9,a9,a9,a9,⟨(am (λz:List Pt=>AV.X 5 0 z.length false) (Fb b a)),R⟩,tr⟩ ⟨⟨R,(am (λz:List Pt=>some (a'.arr (z.map ay) 2)) (Fb b a)),R⟩,tr⟩ R,oT,c7⟩)
  have o:=aF j
  first|refine zC (Nd m (t)) ?_|(refine zL rfl (.inr ⟨rfl,⟨trivial,(by show 0+((fP (q.take k)).length)<=((fP (q.take k)).map ay).length;exact ad),trivial⟩⟩) ((show bI C0 _ [_,.Y 2 (List.take ((fP (q.take k)).length) (List.drop 0 ((fP (q.take k)).map ay))) false] _ from by rw[jW ay (fP (q.take k)) ad];exact QX m (fP (q.take k)) false (t) (by have:=Ko (q.take k);rw[aM]at this;omega) (QY (zD v)))) ?_)
  have r:jZ q m=rP m (fP (q.take k)):=by unfold jZ;rw[aN ad]
  first|rw[r,d]|rw[r]
  exact fT rfl rfl
def Xm(w:Wy):Pt:=⟨w.S,w.data⟩
def gV(c:Ca)(k:Nat):List Pt:=(c.O.take k).flatten.map Xm
def gA(c:Ca)(k:Nat)(s:List Wy)(j:Nat):List Pt:=gV c k++(s.take j).map Xm
def tL{c}{k j}{s}{x}(a:s[j]?=some x):gA c k s j++[⟨x.S,x.data⟩]=gA c k s (j+1):=by
 unfold gA;rw[bW,a];simp[Xm]
def yA{c}{k j}{s}(b:c.O[k]?=some s)(a:s.length<=j):gA c k s j=gV c (k+1):=by
 unfold gA gV;rw[aN a,bW,b];simp
def BD(c)(k)(s):gV c k=gA c k s 0:=by unfold gA;simp
def Fc{c}{k}(h:c.O.length<=k):gV c k=LV c:=by unfold gV LV;rw[aN h];rfl
theorem Nf{α:Type}{B:Nat}:∀(L:List (List α)),(∀s∈L,s.length<=B)->L.flatten.length<=L.length*B
 |[],_=>by simp
 |s::L,h=>by
  have b:=h s dg;have c:=Nf L λt a=>h t (bY _ a);simp only[mU,aU,bN,cG,lD];omega
def Is{c}{k}(d:c.O.length<=4)(a:∀s∈c.O,s.length<=2):(gV c k).length<=8:=by
 unfold gV;rw[aH];have:=Nf (c.O.take k) λs b=>a s (cQ b);rw[aM]at this;omega
def Kq{c}{k j}{s}(b:c.O.length<=4)(a:∀s∈c.O,s.length<=2)(d:s.length<=2):(gA c k s j).length<=10:=by
 unfold gA;have:=Is (k:=k) b a;rw[aU,aH,aM];omega
def Uj{c:Ca}(h:∀s∈c.O,∀x∈s,x.ok)(k:Nat):∀x∈gV c k,x.ok:=λx d=>by
 obtain⟨y,a,rfl⟩:=pG.1 d;let⟨s,b,a⟩:=List.mem_flatten.1 a;exact⟨(h s (cQ b) y a).S⟩
def x'(c)(q)(m)(h)(v:c.ok)(o:c.O.length<=4)(e:∀s∈c.O,s.length<=2)(A:m.size<=1000000)(V:q.length<=900000)(U:∀x∈q,x.ok):bI C0 202 [.agg (fy c false),.Y 4 (q.map bv) h,.v (.string m)] (.v (.string (Ct c q m))):=by
 refine eb func202 R<|zW (vN c.O.length) (cD bX c.O)<|dk (κ:=Nat×Bool) (λa=>match a with|(k,false)=>⟨a6 [(1,.Y 4 (q.map bv) h),(2,.v (.string m)),(6,.v (.string (⟨#[]⟩:ByteArray))),(13,.Y 1 (c.O.map bX) false),(14,vN c.O.length),(15,vN k),(7,.Y 0 [] true)],aq [(0,.box [vI c.ways,.Y 1 (c.O.map bX) false])],8⟩|(k,true)=>⟨a6 [(1,.Y 4 (q.map bv) h),(2,.v (.string m)),(6,.v (.string (⟨#[]⟩:ByteArray))),(13,.Y 1 (c.O.map bX) false),(14,vN c.O.length),(15,vN k),(7,.X 7 0 ((gV c k).length) false)],aq [(0,.box [vI c.ways,.Y 1 (c.O.map bX) false]),(7,.arr ((gV c k).map ay) 2)],8⟩) (λa=>match a with|(k,false)=>(k<=c.O.length/\gV c k=[])|(k,true)=>(k<=c.O.length)) (λa=>c.O.length-a.1) (0,false) (λs=>s) (au (λs=>s) wT wH R) (⟨aE _,(show gV c 0=[]from R)⟩) ?_;intro a T;let⟨k,F⟩:=a;cases F
 .have D:=T;have r:k<=c.O.length:=D.1;have C:k<=1000000:=oT;have B:gV c k=[]:=D.2;refine zW (vB (decide (k<c.O.length))) (ak (bl _ _))<|zB R (λG=>?_) (λG=>?_)
  .have N:=ax G;let⟨s,b⟩:=d7 c.O k;have t:=v.set s (aB b);have w:s.length<=2:=e s (aB b);refine zX (bX s) (.k 1 0 (bX s)) R (iH b)<|zW (vN s.length) (cD a0 s)<|dk (κ:=Nat×Bool) (λa=>match a with|(j,false)=>⟨a6 [(1,.Y 4 (q.map bv) h),(2,.v (.string m)),(6,.v (.string (⟨#[]⟩:ByteArray))),(13,.Y 1 (c.O.map bX) false),(14,vN c.O.length),(15,vN k),(16,vB (decide (k<c.O.length))),(17,.k 1 0 (bX s)),(18,.Y 3 (s.map a0) false),(9,.Y 3 (s.map a0) false),(19,.Y 3 (s.map a0) false),(20,vN s.length),(21,vN j),(7,.Y 0 [] true)],aq [(0,.box [vI c.ways,.Y 1 (c.O.map bX) false])],16⟩|(j,true)=>⟨a6 [(1,.Y 4 (q.map bv) h),(2,.v (.string m)),(6,.v (.string (⟨#[]⟩:ByteArray))),(13,.Y 1 (c.O.map bX) false),(14,vN c.O.length),(15,vN k),(16,vB (decide (k<c.O.length))),(17,.k 1 0 (bX s)),(18,.Y 3 (s.map a0) false),(9,.Y 3 (s.map a0) false),(19,.Y 3 (s.map a0) false),(20,vN s.length),(21,vN j),(7,.X 15 0 ((gA c k s j).length) false)],aq [(0,.box [vI c.ways,.Y 1 (c.O.map bX) false]),(15,.arr ((gA c k s j).map ay) 2)],16⟩) (λa=>match a with|(j,false)=>(j<=s.length/\gA c k s j=[])|(j,true)=>(j<=s.length)) (λa=>s.length-a.1) (0,false) (λs=>s) (au (λs=>s) wT wH R) (⟨aE _,(show gA c k s 0=[]from(BD c k s).symm.trans B)⟩) ?_;intro a y;let⟨j,F⟩:=a;cases F
   .have g:=y;have r:j<=s.length:=g.1;have n:j<=1000000:=oT;have u:gA c k s j=[]:=g.2;refine zW (vB (decide (j<s.length))) (ak (bl _ _))<|zB R (λH=>?_) (λH=>?_)
    .have O:=ax H;let⟨x,d⟩:=d7 s j;have E:=t.2 x (aB d);refine zX (a0 x) (.k 3 0 (a0 x)) R (iH d)<|rV (.agg [vU x.S,.v (.string x.data)]) R<|rV (.Y 2 ([[vU x.S,.v (.string x.data)]]) true) R<|zF (x:=.X 28 0 1 false) (h':=an _ 28 (some (.arr (([(⟨x.S,x.data⟩:Pt)]).map ay) 2))) (Iw ad) ⟨R,by exact ad,by exact ad,tr⟩ ?_;have W:j+1<=1000001:=aD n (aC 1);refine zW (vN (j+1)) (ap (bH W R)) ?_;refine⟨(j+1,true),λi=>match i with|15=>28|i=>i,au _ ⟨a9,a9,a9,a9,a9,a9,a9,a9,a9,a9,a9,a9,a9,⟨(show AV.X 28 0 1 false=AV.X 28 0 (gA c k s (j+1)).length false from by rw[<-(show [(⟨x.S,x.data⟩:Pt)]=gA c k s (j+1)from(by rw[<-(tL d),u];rfl))];first|done|rfl|(congr 1<;>(first|exact ad|simp))),rfl⟩,trivial⟩ ⟨c9,⟨rfl,(am (λz:List Pt=>some (a'.arr (z.map ay) 2)) (show [(⟨x.S,x.data⟩:Pt)]=gA c k s (j+1)from(by rw[<-(tL d),u];rfl))),R⟩,tr⟩ R,oT,c7⟩
    have O:=aF H;have X:k+1<=1000001:=aD C (aC 1);refine zW (vN (k+1)) (ap (bH X R)) ?_;refine⟨(k+1,false),λi=>i,au _ wT wH R,⟨oT,(by rw[<-yA (j:=j) b ad];exact u)⟩,c7⟩
   have g:=y;have r:j<=s.length:=g;have n:j<=1000000:=oT;have M:(gA c k s j).length<=10:=(Kq o e w);refine zW (vB (decide (j<s.length))) (ak (bl _ _))<|zB R (λI=>?_) (λI=>?_)
   .have P:=ax I;let⟨x,d⟩:=d7 s j;have E:=t.2 x (aB d);refine zX (a0 x) (.k 3 0 (a0 x)) R (iH d)<|rV (.agg [vU x.S,.v (.string x.data)]) R<|rV (.Y 2 ([[vU x.S,.v (.string x.data)]]) true) R<|zF (x:=.X 28 0 ((gA c k s j).length+1) false) (h':=an (an _ 15 none) 28 (some (.arr (((gA c k s j)++([(⟨x.S,x.data⟩:Pt)])).map ay) 2))) (iP ay (gA c k s j) ([(⟨x.S,x.data⟩:Pt)]) ad ad) ⟨by exact ad,by exact ad,tr⟩ ?_;have Y:j+1<=1000001:=aD n (aC 1);refine zW (vN (j+1)) (ap (bH Y R)) ?_;refine⟨(j+1,true),λi=>match i with|15=>28|i=>i,au _ ⟨a9,a9,a9,a9,a9,a9,a9,a9,a9,a9,a9,a9,a9,⟨(show AV.X 28 0 ((gA c k s j).length+1) false=AV.X 28 0 (gA c k s (j+1)).length false from by rw[<-(show(gA c k s j)++([(⟨x.S,x.data⟩:Pt)])=gA c k s (j+1)from tL d)];first|done|rfl|(congr 1<;>(first|exact ad|simp))),rfl⟩,trivial⟩ ⟨c9,⟨rfl,(am (λz:List Pt=>some (a'.arr (z.map ay) 2)) (show(gA c k s j)++([(⟨x.S,x.data⟩:Pt)])=gA c k s (j+1)from tL d)),R⟩,tr⟩ R,oT,c7⟩
   have P:=aF I;have Z:k+1<=1000001:=aD C (aC 1);refine zW (vN (k+1)) (ap (bH Z R)) ?_;refine⟨(k+1,true),λi=>match i with|7=>15|i=>i,au _ ⟨a9,a9,a9,a9,a9,a9,⟨(show AV.X 15 0 ((gA c k s j).length) false=AV.X 15 0 (gV c (k+1)).length false from by rw[<-(show gA c k s j=gV c (k+1)from yA b ad)];first|done|rfl|(congr 1<;>(first|exact ad|simp))),rfl⟩,trivial⟩ ⟨c9,⟨rfl,(am (λz:List Pt=>some (a'.arr (z.map ay) 2)) (show gA c k s j=gV c (k+1)from yA b ad)),R⟩,tr⟩ R,oT,c7⟩
  have N:=aF G;refine zC (QZ q m h A V U)<|zC (Nd (jZ q m) (by unfold jZ;rw[iY];exact A)) ?_;have L:Ct c q m=rP (jZ q m) (gV c k):=by unfold Ct;rw[Fc ad]
  rw[L,B];exact fT R R
 have r:k<=c.O.length:=T;have aa:(gV c k).length<=8:=(Is o e);refine zW (vB (decide (k<c.O.length))) (ak (bl _ _))<|zB R (λJ=>?_) (λJ=>?_)
 .have Q:=ax J;let⟨s,b⟩:=d7 c.O k;have t:=v.set s (aB b);have w:s.length<=2:=e s (aB b);refine zX (bX s) (.k 1 0 (bX s)) R (iH b)<|zW (vN s.length) (cD a0 s)<|dk (κ:=Nat) (λj=>⟨a6 [(1,.Y 4 (q.map bv) h),(2,.v (.string m)),(6,.v (.string (⟨#[]⟩:ByteArray))),(13,.Y 1 (c.O.map bX) false),(14,vN c.O.length),(15,vN k),(16,vB (decide (k<c.O.length))),(17,.k 1 0 (bX s)),(18,.Y 3 (s.map a0) false),(9,.Y 3 (s.map a0) false),(19,.Y 3 (s.map a0) false),(20,vN s.length),(21,vN j),(7,.X 15 0 ((gA c k s j).length) false)],aq [(0,.box [vI c.ways,.Y 1 (c.O.map bX) false]),(15,.arr ((gA c k s j).map ay) 2)],16⟩) (λj=>j<=s.length) (λj=>s.length-j) 0 (λi=>match i with|15=>7|i=>i) (au (λi=>match i with|15=>7|i=>i) ⟨a9,a9,a9,a9,a9,a9,a9,a9,a9,a9,a9,a9,a9,⟨(show AV.X 7 0 ((gV c k).length) false=AV.X 7 0 (gA c k s 0).length false from by rw[<-(show gV c k=gA c k s 0 from BD c k s)];first|done|rfl),rfl⟩,trivial⟩ ⟨c9,⟨rfl,(am (λz:List Pt=>some (a'.arr (z.map ay) 2)) (show gV c k=gA c k s 0 from BD c k s)),R⟩,tr⟩ R) (aE _) ?_;intro j y;have g:=y;have r:j<=s.length:=g;have n:j<=1000000:=oT;have M:(gA c k s j).length<=10:=(Kq o e w);refine zW (vB (decide (j<s.length))) (ak (bl _ _))<|zB R (λK=>?_) (λK=>?_)
  .have S:=ax K;let⟨x,d⟩:=d7 s j;have E:=t.2 x (aB d);refine zX (a0 x) (.k 3 0 (a0 x)) R (iH d)<|rV (.agg [vU x.S,.v (.string x.data)]) R<|rV (.Y 2 ([[vU x.S,.v (.string x.data)]]) true) R<|zF (x:=.X 28 0 ((gA c k s j).length+1) false) (h':=an (an _ 15 none) 28 (some (.arr (((gA c k s j)++([(⟨x.S,x.data⟩:Pt)])).map ay) 2))) (iP ay (gA c k s j) ([(⟨x.S,x.data⟩:Pt)]) ad ad) ⟨by exact ad,by exact ad,tr⟩ ?_;have b5:j+1<=1000001:=aD n (aC 1);refine zW (vN (j+1)) (ap (bH b5 R)) ?_;refine⟨j+1,λi=>match i with|15=>28|i=>i,au _ ⟨a9,a9,a9,a9,a9,a9,a9,a9,a9,a9,a9,a9,a9,⟨(show AV.X 28 0 ((gA c k s j).length+1) false=AV.X 28 0 (gA c k s (j+1)).length false from by rw[<-(show(gA c k s j)++([(⟨x.S,x.data⟩:Pt)])=gA c k s (j+1)from tL d)];first|done|rfl|(congr 1<;>(first|exact ad|simp))),rfl⟩,trivial⟩ ⟨c9,⟨rfl,(am (λz:List Pt=>some (a'.arr (z.map ay) 2)) (show(gA c k s j)++([(⟨x.S,x.data⟩:Pt)])=gA c k s (j+1)from tL d)),R⟩,tr⟩ R,oT,c7⟩
  have S:=aF K;have b6:k+1<=1000001:=aD oT (aC 1);refine zW (vN (k+1)) (ap (bH b6 R)) ?_;refine⟨(k+1,true),λi=>match i with|7=>15|i=>i,au _ ⟨a9,a9,a9,a9,a9,a9,⟨(show AV.X 15 0 ((gA c k s j).length) false=AV.X 15 0 (gV c (k+1)).length false from by rw[<-(show gA c k s j=gV c (k+1)from yA b ad)];first|done|rfl|(congr 1<;>(first|exact ad|simp))),rfl⟩,trivial⟩ ⟨c9,⟨rfl,(am (λz:List Pt=>some (a'.arr (z.map ay) 2)) (show gA c k s j=gV c (k+1)from yA b ad)),R⟩,tr⟩ R,oT,c7⟩
 have Q:=aF J;refine zC (QZ q m h A V U)<|zL (x:=.v (.string (rP (jZ q m) (gV c k)))) R (.inr ⟨R,⟨tr,(by show 0+((gV c k).length)<=((gV c k).map ay).length;exact ad),tr⟩⟩) ((show bI C0 _ [_,.Y 2 (List.take ((gV c k).length) (List.drop 0 ((gV c k).map ay))) false] _ from by rw[jW ay (gV c k) ad];exact QX (jZ q m) (gV c k) false (by unfold jZ;rw[iY];exact A) (oH (Is (k:=k) o e)) (Uj (λs b=>(v.set s b).2) k))) ?_;have L:Ct c q m=rP (jZ q m) (gV c k):=by unfold Ct;rw[Fc ad]
 rw[L];exact fT R R
def AI(agF)(c)(q)(m)(b a)(h:c.ok)(e:c.O.length<=4)(d:∀s∈c.O,s.length<=2)(g:m.size<=1000000)(n:q.length<=900000)(k:∀x∈q,x.ok)(j:agF.length<=1000000)(i:∀x∈agF,x.ok):bI C0 167 [.Y 2 (agF.map ay) a,.agg (fy c false),.Y 4 (q.map bv) b,.v (.string m)] (.v (.string (jz agF c q m))):=by
 apply bc func167 R;exact zC (x' c q m b h e d g n k)<|zC (QX (Ct c q m) agF a (by unfold Ct jZ;rw[iY,iY];exact g) j i)<|fT R R
def Rb{m:ByteArray}{a}(h:a<=m.size):(m.extract a m.size).extract 0 (min (m.extract a m.size).size 16)=m.extract a (a+min (m.size-a) 16):=by
 have b:(m.extract a m.size).size=m.size-a:=by rw[dA];omega
 rw[b,ByteArray.extract_extract];congr 1<;>omega
def AS(m)(agY)(d:m.size<=1000000)(a:agY<=4294967295):bI C0 203 [.v (.string m),vU agY] (.v (.string (Ga m agY))):=by
 refine bc func203 R<|zC (tN agY a)<|zW _ (ap (nJ (dV a) R))<|rV _ R<|rW _ R (ap (nJ d R))<|b0 (ak (im _ _)) (λb=>?_) (λb=>?_)
 .have c:=ax b;exact fT R (by unfold Ga;rw[dZ ad];rfl)
 have c:=aF b;refine zM _ R (by refine⟨?_,?_,?_⟩<;>(first|exact aG _|decide|(apply FG.2;exact ad)))<|rV _ rfl<|rW _ rfl (Bo ((m.extract (ao agY) m.size).size) 16)<|zM (.v (.string ((m.extract (ao agY) m.size).extract 0 (min ((m.extract (ao agY) m.size).size) 16)))) rfl (by refine⟨?_,?_,?_⟩<;>(first|exact aG _|decide|(apply FG.2;exact ad))) ?_;exact fT rfl (by unfold Ga;rw[aa ad,Rb ad];rfl)
def GQ(r)(s)(c:∀k,r k<=4294967295)(d:s.ok):bI C0 136 [.agg (Ks r),.agg (a2 s)] (.agg (Ks (lY r s))):=by
 refine bc func136 R<|zV (vB (decide (s.rd>=1)))<|gS R id<|aw R id R<|zN R (λh=>h)<|gS R id<|aw R id R<|zN R (λh=>h)<|zB R (λa=>?_) (λa=>?_)
 .have b:(1<=s.rd/\s.rd<=31/\s.halt=0):=by have z:=a;simp[qA,aP,aY,pU,kI,bA,ne_eq]at z;omega
  refine nW _ R R ad<|Ow R R (Di R R R ad) (trivial)<|cg 0 R ?_;rw[show lY r s=hL r s.rd.toNat s.value from by unfold lY;rw[aa b]];exact dK R dc R R
 have b: ¬(1<=s.rd/\s.rd<=31/\s.halt=0):=by have z:=a;simp[qA,aP,aY,pU,kI,bA,ne_eq]at z;omega
 rw[show lY r s=r from by unfold lY;rw[dZ b]];exact dK R dc R R
abbrev C9(o:Option Pt):AV:=.F [.agg (ay (o.getD ⟨0,oZ⟩)),vB o.isSome]
def LO(s)(i:s.ok):bI C0 135 [.agg (a2 s)] (C9 (iJ s)):=by
 refine bc func135 R<|gS R id<|aw R id R<|zN R (by simp)<|gS R id<|aw R id R<|zG R id<|gS R id<|aw R id R<|pB R R R R (λh=>h) R R (λd c=>by first|(rw[d,c];rfl)|simp_all)<|zG rfl id<|gS rfl id<|aw rfl id rfl<|pB rfl rfl rfl rfl (λh=>h) R R (λd c=>by first|(rw[d,c];rfl)|simp_all)<|zN rfl (by simp)<|zB rfl (λa=>?_) (λa=>?_)
 .have b:s.store=false\/s.halt≠0\/(s.size≠1/\s.size≠2/\s.size≠4):=by have z:=a;simp[qA,ae,aP,dE,aY,pU,pX,qI,dP,kI,iC,mJ,ne_eq,and_imp]at z;rcases z with (z|z)|z<;>simp_all
  apply zV _;rw[show iJ s=none from by unfold iJ;rw[aa b]];exact fT rfl rfl
 have b: ¬(s.store=false\/s.halt≠0\/(s.size≠1/\s.size≠2/\s.size≠4)):=by have z:=a;intro q;rcases q with q|q|⟨j,k,m⟩<;>simp_all[qA,ae]
 let⟨n,e⟩:∃n:Nat,s.size=(n:Int):=⟨s.size.toNat,oT⟩;have g:n<=4:=oT;refine zC (x:=.F [.v _,vI 0]) ((by rw[e];exact Nv s.value n (CI i.value) g))<|zV _ ?_;rw[show iJ s=some ⟨s.W,oF s.value n⟩from by unfold iJ;rw[dZ b,e];rfl];exact fT R R
def QS(k):(if(0:Int)>k then 0 else k)=(((max k 0).toNat:Nat):Int):=by split<;>omega
def QT(c):(bZ c).q.length<=64:=by unfold bZ;simp;omega
def OL(c):(bZ c).tape.length<=64:=by unfold bZ;simp;omega
def Iq{c:Cf}(h:∀x∈c.tape,x<=4294967295):∀x∈(bZ c).tape,x<=4294967295:=λx a=>h x (cQ a)
def QU{c}{k}{x}(h: ¬(bZ c).q.length=0)(a:(bZ c).q[(max k 0).toNat%(bZ c).q.length]?=some x):x=lX c k:=by
 unfold lX;generalize (bZ c).q=l at h a
 cases l with
 |nil=>exact absurd R h
 |cons y l=>simp only[aR,a];rfl
def OM{c}{k}{x pc}(h: ¬(bZ c).tape.length=0)(a:(bZ c).tape[(max k 0).toNat%(bZ c).tape.length]?=some x):x=yG c k pc:=by
 unfold yG;generalize (bZ c).tape=l at h a
 cases l with
 |nil=>exact absurd R h
 |cons y l=>simp only[aR,a];rfl
def Fa(c)(k)(e:c.ok)(i:k<=9223372036854775807):bI C0 172 [.agg (er c false false),vI k] (vI (lX c k)):=by
 refine bc func172 R<|zC (Eb c false false e)<|rW _ R (cD bm ((bZ c).q))<|b0 (ak (ba _ _)) (λd=>?_) (λd=>?_)
 .have a:=mT d;exact fT R (Ni (by unfold lX;rw[gq a]))
 have a:=nA d;have g:=aQ (max k 0).toNat (eU a);refine zW _ (ap (QS k))<|rW _ R (cD bm ((bZ c).q)) ?_;have h:((max k 0).toNat)%(((bZ c).q).length)<=9223372036854775807:=aL (gR _ _) ad;refine nW _ R (ij (sc _ _)) ad ?_;let⟨j,b⟩:=d7 ((bZ c).q) (((max k 0).toNat)%(((bZ c).q).length));apply zX _ _ R (iH b);exact fT R (Ni (QU a b))
def QV(c)(k)(pc)(d:c.ok)(o:k<=9223372036854775807)(j:pc<=4294967295):bI C0 191 [.agg (er c false false),vI k,vU pc] (vU (yG c k pc)):=by
 refine bc func191 R<|zC (Eb c false false d)<|rW _ R (cD dU ((bZ c).tape))<|b0 (ak (ba _ _)) (λe=>?_) (λe=>?_)
 .have a:=mT e;have m:(pc+4)%4294967296<=4294967295:=aI (aQ _ dT);apply zV _;exact fT R (GW (by unfold yG;rw[gq a];rfl))
 have a:=nA e;have i:=aQ (max k 0).toNat (eU a);refine zW _ (ap (QS k))<|rW _ R (cD dU ((bZ c).tape)) ?_;have n:((max k 0).toNat)%(((bZ c).tape).length)<=9223372036854775807:=aL (gR _ _) ad;refine nW _ R (ij (sc _ _)) ad ?_;let⟨h,b⟩:=d7 ((bZ c).tape) (((max k 0).toNat)%(((bZ c).tape).length));have g:=(Iq d.tp) h (aB b);apply zX _ _ R (iH b);exact fT R (GW (OM a b))
def ko(n lo a):bI C0 162 [vI n,vI lo,vI a] (vB (jf n lo a)):=by
 exact bc func162 R<|zV (vB (decide (n>=lo)))<|aw R b9 R<|zN R (λh=>h)<|fT R (dR (by rw[bB];simp[qA,ae,jf]))
structure Cf.okW(c:Cf):Prop where
 q:c.q.length<=9223372036854775807
 tape:c.tape.length<=9223372036854775807
 tp:∀x∈c.tape,x<=4294967295
def DV{α}{p}{l:List α}{k}{x}(a:l[k]?=some x)(hp:p x=true)(h:(l.take k).all p=true):(l.take (k+1)).all p=true:=by
 rw[bW,a,List.all_append,h];simpa using hp
def Ir{α}{p}{l:List α}{k:Nat}{x}(a:l[k]?=some x)(hp:p x=false):l.all p=false:=by
 rw[List.all_eq_false];exact⟨x,aB a,by simp[hp]⟩
def DW{α}{p}{l:List α}{k}(a:l.length<=k)(h:(l.take k).all p=true):l.all p=true:=by rwa [aN a]at h
def Ug(c)(b:c.okW):bI C0 110 [.agg (er c false false)] (vB (wA c)):=by
 refine bc func110 R<|zW _ (cD bm c.q)<|dk (λk=>⟨a6 [(1,.ptr 0 0),(3,.a 162 [] []),(7,.Y 1 (c.q.map bm) false),(8,vN c.q.length),(9,vN k)],aq [(0,.box [vI c.mode,vI c.o,vI c.Z,vI c.queue,vI c.V,vI c.m,vI c.O,vI c.ways,.Y 1 (c.q.map bm) false,vB c.tables,.Y 1 (c.tape.map dU) false])],7⟩) (λk=>k<=c.q.length/\(c.q.take k).all (λn=>jf n 1 8)=true) (λk=>c.q.length-k) 0 (λs=>s) (au (λs=>s) wT wH R) ⟨aE _,R⟩ ?_;intro k g;have q:k<=c.q.length:=g.1;have o:k<=9223372036854775807:=oH b.q;have m:=b.q;refine b0 (ak (bl _ _)) (λd=>?_) (λd=>?_)
 .have j:=ax d;let⟨x,i⟩:=d7 c.q k;refine zX (bm x) (.k 1 0 (bm x)) R (iH i)<|zC (ko x 1 8)<|zB R (λe=>?_) (λe=>?_)
  .have z:=e;exact fT R (dR (by unfold wA;rw[Ir i (sU z)];simp))
  skip
  have r:k+1<=9223372036854775807:=oT;refine zW _ (ap (bH (oT:k+1<=9223372036854775807) R)) ?_;refine⟨k+1,λs=>s,au _ wT wH R,⟨oT,DV i (sU e) g.2⟩,c7⟩
 have j:=aF d;exact zC (ko c.mode 0 2)<|gS R id<|jQ R R R R b9 R R R (.inl R) R (λa=>ko c.o 1 2)<|zN R (λh=>h)<|gS R id<|jQ R R R R b9 R R R (.inl R) R (λa=>ko c.Z 2 8)<|zN R (λh=>h)<|gS R id<|jQ R R R R b9 R R R (.inl R) R (λa=>ko c.queue 1 4)<|zN R (λh=>h)<|gS R id<|jQ R R R R b9 R R R (.inl R) R (λa=>ko c.V 1 4)<|zN R (λh=>h)<|gS R id<|jQ R R R R b9 R R R (.inl R) R (λa=>ko c.m 2 6)<|zN R (λh=>h)<|gS R id<|jQ R R R R b9 R R R (.inl R) R (λa=>ko c.O 1 4)<|zN R (λh=>h)<|gS R id<|aw R id R<|zN R (λh=>h)<|gS R id<|jQ R R R R b9 R R R (.inl R) R (λa=>ko c.ways 1 2)<|zN R (λh=>h)<|gS R id<|aw R id (cD bm c.q)<|aw R id (ak (ju _ _))<|zN R (λh=>h)<|gS R id<|aw R id (cD dU c.tape)<|aw R id (ak (ju _ _))<|zN R (λh=>h)<|fT R (dR (by unfold wA;rw[DW ad g.2,bB];simp[qA,uK]))
def sb(c)(f)(a:c.ok):bI C0 112 [.agg (fy c false),.agg (er f false false)] (vB (Ax c f)):=by
 exact bc func112 R<|zC (AW c false a)<|gS R id<|gn R id (cD bX c.O)<|gS R id<|aw R b9 R<|zN R (λh=>h)<|zG R id<|gS R id<|aw R b9 R<|zN R (λh=>h)<|fT R (dR (by rw[bB];simp[qA,ae,Ax]))
abbrev S2(t:Ca×List bp×Bool):AV:=.F [.agg (fy t.1 false),.Y 4 (t.2.1.map bv) false,vB t.2.2]
abbrev S6(t:List Pt×Ca×Bool):AV:=.F [.Y 2 (t.1.map ay) false,.agg (fy t.2.1 false),vB t.2.2]
def GR{c}(h:c.ok)(agY)(d)(b):(qZ c agY d b).2.1.S<=4294967295:=by
 by_cases a:gG c=true
 .by_cases e:(bK c agY).2.isSome=true
  .rw[Cn e];exact aE _
  .rw[AR a (sU e)];split
   .show((pF c (bK c agY).1).getLast?.getD qE).S<=_
    cases j:(pF c (bK c agY).1).getLast? with
    |none=>exact aE _
    |some w=>
     have i:=List.mem_of_getLast? j;have g:(bK c agY).1<c.O.length:=by rw[rI a];exact AP (kJ a).1 _
     rw[vA (aA g)]at i;exact((h.set _ (jO g)).2 w i).S
   .exact aE _
 .rw[Nh (sU a)];exact aE _
def Nb(c)(q)(m)(agY)(left)(b:c.ok)(n:q.length<=900000)(k:∀x∈q,x.ok)(j:m.size<=1000000)(a:agY<=4294967295):bI C0 171 [.agg (fy c false),.Y 4 (q.map bv) false,.v (.string m),vU agY,vI left] (S2 (iQ c q m agY left)):=by
 refine eb func171 R<|zC (AW c false b)<|zB R (λd=>?_) (λd=>?_)
 .rw[show iQ c q m agY left=(c,q,false)from by unfold iQ;rw[aa (sU d)]];exact fT R R
 refine zC (tN agY a)<|zC (As c (ao agY) b (dV a))<|zB R (λg=>?_) (λg=>?_)
 .apply zC (It c (ao agY) b (dV a));rw[show iQ c q m agY left=(tO c (ao agY),q,false)from by unfold iQ;rw[dZ (sU d),aa g]];exact fT R R
 refine zR<|zC (QZ q m false j n k)<|zC (AS (jZ q m) (ao agY) (by unfold jZ;rw[iY];exact j) (dV a))<|zC (Re c (ao agY) (Ga (jZ q m) (ao agY)) false b (dV a))<|gS R id<|zN R (λh=>h)<|gS R id<|aw R id R<|zN R (λh=>h)<|zB R (λi=>?_) (λi=>?_)
 .have e:((qZ c (ao agY) (Ga (jZ q m) (ao agY)) false).2.2=true/\(qZ c (ao agY) (Ga (jZ q m) (ao agY)) false).2.1.f=true/\(qZ c (ao agY) (Ga (jZ q m) (ao agY)) false).2.1.data.size≠0):=by have z:=i;rw[jr]at z;simpa [qA,uK]using z
  refine zR<|zC (Ng q 4 (qZ c (ao agY) (Ga (jZ q m) (ao agY)) false).2.1.S left (qZ c (ao agY) (Ga (jZ q m) (ao agY)) false).2.1.data false n k (GR b _ _ _)) ?_;rw[show iQ c q m agY left=((qZ c (ao agY) (Ga (jZ q m) (ao agY)) false).1,Bi q 4 (qZ c (ao agY) (Ga (jZ q m) (ao agY)) false).2.1.S left (qZ c (ao agY) (Ga (jZ q m) (ao agY)) false).2.1.data,true)from by unfold iQ;rw[dZ (sU d),dZ (by rw[g];decide)];exact aa e];exact fT R R
 have e: ¬((qZ c (ao agY) (Ga (jZ q m) (ao agY)) false).2.2=true/\(qZ c (ao agY) (Ga (jZ q m) (ao agY)) false).2.1.f=true/\(qZ c (ao agY) (Ga (jZ q m) (ao agY)) false).2.1.data.size≠0):=by have z:=i;rw[jr]at z;simpa [qA,uK]using z
 rw[show iQ c q m agY left=((qZ c (ao agY) (Ga (jZ q m) (ao agY)) false).1,q,false)from by unfold iQ;rw[dZ (sU d),dZ (by rw[g];decide)];exact dZ e];exact fT R R
def x_(l)(c)(e:c.ok)(i:l.length<=1000000)(g:∀x∈l,x.ok):bI C0 149 [.Y 2 (l.map ay) false,.agg (fy c false)] (S6 (sL l c)):=by
 refine eb func149 R<|rW _ R (cD ay l)<|zW (vB (l.length==0)) (ak (ba _ _))<|zB R (λb=>?_) (λb=>?_)
 .have a:=mT b;refine pO R R<|oR 3 R<|a1 R<|oR 1 R<|rE 12<|And.intro (by kernel_rfl)<|ck 0 R ?_;have h:l=[]:=gq a;subst h;exact fT R R
 have a:=nA b;refine a7<|oR 2 R ?_;let⟨p,hp⟩:=d7 l 0;refine FO _ R R R ⟨dT,iH hp⟩ R<|oR 3 R<|FO _ R R R ⟨dT,iH hp⟩ R<|oR 2 R<|aW R (Um c p.W p.data e (g p (aB hp)).W)<|oR 3 R<|dm 20 R R<|a1 R<|oR 1 R<|rE 23<|jk 0 R<|zB R (λd=>?_) (λd=>?_)
 .refine pO R R<|oR 3 R<|a1 R<|oR 1 R<|rE 30<|And.intro (by kernel_rfl)<|ck 0 R ?_;rw[show sL l c=(l,c,false)from by unfold sL;cases l with|nil=>cases hp|cons y l=>injection hp with hp;subst hp;exact dZ (sU d)];exact fT R R
 refine pO R R<|oR 1 R<|nW _ R (yB (Kr ay l 1)) g_<|oR 2 R<|a1 R<|oR 1 R<|rE 31<|And.intro (by kernel_rfl)<|ck 0 R ?_;rw[show sL l c=(l.drop 1,(xL c p.W p.data).1,true)from by unfold sL;cases l with|nil=>cases hp|cons y l=>injection hp with hp;subst hp;exact aa (sU d)];exact fT R R
structure Gu.ok(g:Gu):Prop where
 m:g.m.length<=9223372036854775807
 I:g.I.length<=9223372036854775807
 Z7:g.Z7<=4294967295
 so:∀x∈g.m,x.ok
 ro:∀x∈g.I,x<=4294967295
def XM{g}:sM g=true↔g.m.length=8/\g.Z7<8/\g.I.length<=4:=by
 unfold sM;simp[aP,aY,uK]
def su{r}{k}(h:cE (!r) true (k != 5)=false):r=true/\k=5:=by
 cases r<;>simp[cE]at h⊢;exact h
def VR{r}{k}(h:cE (!r) true (k != 5)=true): ¬(r=true/\k=5):=by
 cases r<;>simp[cE]at h⊢;exact h
def UP{l:List Nat}{x}(h:l[l.length-1]?=some x):l.getLast?.getD 0=x:=by rw[oX,h];rfl
def IZ(g)(a:g.ok):bI C0 113 [.agg (i_ g)] (vB (sM g)):=by
 exact bc func113 R<|rW _ R (cD dn g.m)<|zW _ (ak (ba _ _))<|gS R id<|aw R id (ak (bl _ _))<|zN R (λh=>h)<|gS R id<|aw R id (cD dU g.I)<|aw R id (ak (ju _ _))<|zN R (λh=>h)<|fT R (dR (by rw[bB];simp[qA,ae,sM]))
def RG(g)(pc)(b:g.ok)(c:pc<=4294967295):bI C0 176 [.agg (i_ g),vU pc] (vN (gO g pc)):=by
 apply bc func176 R;have a:pc/4<=1073741823:=eG c;refine zM _ (ij (nJ a R)) dT ?_;exact rW _ R (ap (x0 a b.Z7 R R)) (nW _ R R dT<|zW _ (ap (bH (aI (aQ _ dT)) R))<|fT R (nT R))
def KH(g)(pc):gO g pc<=7:=by unfold gO;omega
def RH(i)(a:i.C<=4294967295):bI C0 177 [g9 i] (vB (Ro i)):=by
 exact bc func177 R<|zV (vB (i.op==3))<|gS R id<|aw R id R<|zN R (by simp)<|gS R id<|aw R id R<|zN R (λh=>h)<|fT R (dR (by rw[bB];simp[qA,ae,Ro]))
def q7(i)(a:i.C<=4294967295):bI C0 178 [g9 i] (vB (Gb i)):=by
 exact bc func178 R<|zV (vB (i.op==4))<|gS R id<|aw R id R<|zN R (λh=>h)<|gS R id<|aw R id R<|zN R (λh=>h)<|fT R (dR (by rw[bB];simp[qA,ae,Gb]))
def RJ(g)(pc)(i)(a:g.ok)(r:pc<=4294967295)(s:i.C<=4294967295):bI C0 190 [.agg (i_ g),vU pc,g9 i] (vU (xC g pc i)):=by
 refine eb func190 R<|zC (IZ g a)<|jQ R R R R (λh=>h) R R R (.inl R) R (λD=>pS i)<|aw R id (ak (db _ _))<|zN R (by simp)<|zB R (λj=>?_) (λj=>?_)
 .have y:(pc+4)%4294967296<=4294967295:=aI (aQ _ dT);exact zV (vU ((pc+4)%4294967296))<|fT R (GW (by unfold xC;rw[dZ (VR j)];rfl))
 have m:=su j;have e:=XM.1 m.1;have w:=e.1;have C:=KH g pc;have x:=e.2.2;refine zW _ (cD dU g.I)<|zC (q7 i s)<|aw R id (ak (fq _ _))<|zN R (λh=>h)<|zB R (λk=>?_) (λk=>?_)
 .have d:Gb i=true/\0<g.I.length:=by simpa [qA]using k
  have v:=d.2;have A:g.I.length-1<=9223372036854775807:=aL (jT _ _) a.I;refine rW _ R (ap (DA ad a.I R)) ?_;let⟨n,b⟩:=d7 g.I (g.I.length-1);have t:=a.ro n (aB b);exact zX (dU n) (.k 1 0 (dU n)) R (iH b)<|fT R (GW (by unfold xC;rw[aa m,aa d,UP b]))
 have d: ¬(Gb i=true/\0<g.I.length):=by simpa [qA]using k
 refine zR<|zC (RG g pc a r) ?_;let⟨o,c⟩:=d7 g.m (gO g pc);have u:=a.so o (aB c);refine zX (dn o) (.k 2 0 (dn o)) R (iH c)<|zW _ (ak (ba _ _))<|gB R R<|aw R b9 R<|zN R (λh=>h)<|zB R (λq=>?_) (λq=>?_)
 all_goals
  first|(skip;have B:(pc+4)%4294967296<=4294967295:=aI (aQ _ dT);refine zV (vU ((pc+4)%4294967296)) ?_)|skip
  exact fT rfl (GW (by unfold xC;rw[aa m,dZ d];have z:=q;simp[qA]at z;simp[c,b_,z]<;>(intros;simp_all)))
def AZ(g)(pc next)(i)(e:g.ok)(C:pc<=4294967295)(E:next<=4294967295)(t:i.C<=4294967295):bI C0 137 [.agg (i_ g),vU pc,vU next,g9 i] (.agg (i_ (fM g pc next i))):=by
 refine eb func137 R<|zC (IZ g e)<|jQ (x:=vN (aj i.op)) (g:= !(!(sM g))) R R R R (λh=>h) R R R (.inl R) R (λhg=>pS i)<|aw R id (ak (db _ _))<|zN R (by simp)<|zB R (λw=>?_) (λw=>?_)
 .apply dK R ga R;show AV.agg [.Y 2 (g.m.map dn) false,vU g.Z7,.Y 1 (g.I.map dU) false]=_;refine am (λz=>AV.agg (i_ z)) (?_:g=fM g pc next i);unfold fM;rw[dZ (VR w)]
 have j:=su w;have u:=XM.1 j.1;have M:=u.1;have Z:=KH g pc;have N:=u.2.2;refine zF (x:=.X 11 0 8 false) (h':=an _ 11 (some (.arr ((List.replicate 8 (⟨0,0⟩:Gs)).map dn) 2))) (Ri (fH (f:=dn) (a:=(⟨0,0⟩:Gs))).symm) (⟨dT,dT,by show((8:Nat):Int)<=1000000;omega⟩)<|zF (x:=vI ((min ((g.m.map dn).length) (8):Nat):Int)) (h':=an _ 11 (some (.arr (g.m.map dn) 2))) (II (DX dn ((List.replicate 8 (⟨0,0⟩:Gs)).map dn) g.m ad ad)) (⟨by exact ad,tr⟩)<|zC (RG g pc e C)<|rV (.agg [vU pc,vU next]) R<|nW (.x 11 (0+(gO g pc)) 0) R R fd ?_;let⟨D,v⟩:=d7 g.m (gO g pc);have F:=e.so D (aB v);have O:(g.m.set (gO g pc) (⟨pc,next⟩:Gs))[(gO g pc)]?=some (⟨pc,next⟩:Gs):=aZ ad;apply nM (dn D) (h':=an _ 11 (some (.arr ((g.m.set (gO g pc) (⟨pc,next⟩:Gs)).map dn) 2))) R R R (⟨aG _,Jv (iH v)⟩) (vX (f:=dn) (l:=g.m) (k:=(gO g pc)) (x:=(⟨pc,next⟩:Gs)));have P:(2*g.Z7)%4294967296<=4294967295:=aI (aQ _ dT);refine qR 0 R<|zV (vU ((2*g.Z7)%4294967296)) ?_;have Q:(pc+4)%4294967296<=4294967295:=aI (aQ _ dT);refine rV (vU ((pc+4)%4294967296)) R<|zW (vB (next != ((pc+4)%4294967296))) (ak (db _ _))<|zB R (λd=>?_) (λd=>?_)
 .have x:=wM d;have S:(((2*g.Z7)%4294967296)+1)%4294967296<=4294967295:=aI (aQ _ dT);refine zV (vU ((((2*g.Z7)%4294967296)+1)%4294967296))<|zF (x:=.X 37 0 0 false) (h':=an _ 37 (some (.arr (([]:List Nat).map dU) 1))) R (⟨dT,dT,by show((5:Nat):Int)<=1000000;omega⟩)<|zF (x:=.X 42 0 g.I.length false) (h':=an (an _ 37 none) 42 (some (.arr (g.I.map dU) 1))) (iP dU ([]:List Nat) g.I ad ad) (⟨by exact ad,by exact ad,tr⟩)<|zV (vN g.I.length)<|zC (RH i t)<|zB R (λk=>?_) (λk=>?_)
  .skip
   have T:(pc+4)%4294967296<=4294967295:=aI (aQ _ dT);refine rV (vU ((pc+4)%4294967296)) R<|rV (.Y 1 ([[vU ((pc+4)%4294967296)]]) true) R<|zF (x:=.X 54 0 (g.I.length+1) false) (h':=an (an _ 42 none) 54 (some (.arr ((g.I++([(pc+4)%4294967296])).map dU) 1))) (iP dU g.I ([(pc+4)%4294967296]) ad ad) (⟨by exact ad,by exact ad,tr⟩)<|rV (vN (g.I.length+1)) R<|zW (vB (decide ((g.I.length+1)>4))) (ak (fq _ _))<|zB R (λm=>?_) (λm=>?_)
   .have y:=ax m;refine zM (.X 54 1 (g.I.length+1-1) false) (LR (by first|rfl|omega) (by simp only[Option.getD];omega)) g_ ?_;have U:((((2*g.Z7)%4294967296)+1)%4294967296)%8<=7:=aI (aQ _ dT);refine zM (vU (((((2*g.Z7)%4294967296)+1)%4294967296)%8)) R dT<|zV (.agg [.X 11 0 8 false,vU (((((2*g.Z7)%4294967296)+1)%4294967296)%8),.X 54 1 (g.I.length+1-1) false])<|dK R ⟨(by show 0+8<=((g.m.set (gO g pc) (⟨pc,next⟩:Gs)).map dn).length;exact ad),tr,(by show 1+(g.I.length+1-1)<=((g.I++([(pc+4)%4294967296])).map dU).length;exact ad),tr⟩ R ?_;show AV.agg [.Y 2 (List.take 8 (List.drop 0 ((g.m.set (gO g pc) (⟨pc,next⟩:Gs)).map dn))) false,vU (((((2*g.Z7)%4294967296)+1)%4294967296)%8),.Y 1 (List.take (g.I.length+1-1) (List.drop 1 ((g.I++([(pc+4)%4294967296])).map dU))) false]=_;rw[jW dn (g.m.set (gO g pc) (⟨pc,next⟩:Gs)) ad,Cp (M:=(g.I++([(pc+4)%4294967296])).drop 1) dU (g.I++([(pc+4)%4294967296])) (aN ad)];refine am (λz=>AV.agg (i_ z)) (?_:(⟨g.m.set (gO g pc) (⟨pc,next⟩:Gs),((((2*g.Z7)%4294967296)+1)%4294967296)%8,(g.I++([(pc+4)%4294967296])).drop 1⟩:Gu)=fM g pc next i);unfold fM;rw[aa j];have z:=d;have a:=k;have b:=m;have c:b_ pc=(pc+4)%4294967296:=rfl;rw[c]
    try simp[qA]at z a b
    simp[z,a,b,j0]<;>(intros;first|omega|simp_all)
   have y:=aF m;have V:((((2*g.Z7)%4294967296)+1)%4294967296)%8<=7:=aI (aQ _ dT);refine zM (vU (((((2*g.Z7)%4294967296)+1)%4294967296)%8)) R dT<|zV (.agg [.X 11 0 8 false,vU (((((2*g.Z7)%4294967296)+1)%4294967296)%8),.X 54 0 (g.I.length+1) false])<|dK R ⟨(by show 0+8<=((g.m.set (gO g pc) (⟨pc,next⟩:Gs)).map dn).length;exact ad),tr,(by show 0+(g.I.length+1)<=((g.I++([(pc+4)%4294967296])).map dU).length;exact ad),tr⟩ R ?_;show AV.agg [.Y 2 (List.take 8 (List.drop 0 ((g.m.set (gO g pc) (⟨pc,next⟩:Gs)).map dn))) false,vU (((((2*g.Z7)%4294967296)+1)%4294967296)%8),.Y 1 (List.take (g.I.length+1) (List.drop 0 ((g.I++([(pc+4)%4294967296])).map dU))) false]=_;rw[jW dn (g.m.set (gO g pc) (⟨pc,next⟩:Gs)) ad,jW dU (g.I++([(pc+4)%4294967296])) ad];refine am (λz=>AV.agg (i_ z)) (?_:(⟨g.m.set (gO g pc) (⟨pc,next⟩:Gs),((((2*g.Z7)%4294967296)+1)%4294967296)%8,g.I++([(pc+4)%4294967296])⟩:Gu)=fM g pc next i);unfold fM;rw[aa j];have z:=d;have a:=k;have b:=m;have c:b_ pc=(pc+4)%4294967296:=rfl;rw[c]
   try simp[qA]at z a b
   simp[z,a,b,j0]<;>(intros;first|omega|simp_all)
  refine zC (q7 i t)<|aw rfl id (ak (fq _ _))<|zN rfl (λh=>h)<|zB R (λn=>?_) (λn=>?_)
  .have s:Gb i=true/\0<g.I.length:=by simpa [qA]using n
   have B:=s.2;have W:g.I.length-1<=9223372036854775807:=aL (jT _ _) e.I;refine rW (vN (g.I.length-1)) R (ap (DA ad e.I R))<|zM (.X 42 0 (g.I.length-1) false) (LR (by first|rfl|omega) (by simp only[Option.getD];omega)) g_ ?_;have X:((((2*g.Z7)%4294967296)+1)%4294967296)%8<=7:=aI (aQ _ dT);refine zM (vU (((((2*g.Z7)%4294967296)+1)%4294967296)%8)) R dT<|zV (.agg [.X 11 0 8 false,vU (((((2*g.Z7)%4294967296)+1)%4294967296)%8),.X 42 0 (g.I.length-1) false])<|dK R ⟨(by show 0+8<=((g.m.set (gO g pc) (⟨pc,next⟩:Gs)).map dn).length;exact ad),tr,(by show 0+(g.I.length-1)<=(g.I.map dU).length;exact ad),tr⟩ R ?_;show AV.agg [.Y 2 (List.take 8 (List.drop 0 ((g.m.set (gO g pc) (⟨pc,next⟩:Gs)).map dn))) false,vU (((((2*g.Z7)%4294967296)+1)%4294967296)%8),.Y 1 (List.take (g.I.length-1) (List.drop 0 (g.I.map dU))) false]=_;rw[jW dn (g.m.set (gO g pc) (⟨pc,next⟩:Gs)) ad,Cp (M:=g.I.take (g.I.length-1)) dU g.I (by rw[bS])];refine am (λz=>AV.agg (i_ z)) (?_:(⟨g.m.set (gO g pc) (⟨pc,next⟩:Gs),((((2*g.Z7)%4294967296)+1)%4294967296)%8,g.I.take (g.I.length-1)⟩:Gu)=fM g pc next i);unfold fM;rw[aa j];have z:=d;have a:=k;have b:=n;have c:b_ pc=(pc+4)%4294967296:=rfl;rw[c]
   try simp[qA]at z a b
   simp[z,a,b,j0]<;>(intros;first|omega|simp_all)
  have s: ¬(Gb i=true/\0<g.I.length):=by simpa [qA]using n
  have Y:((((2*g.Z7)%4294967296)+1)%4294967296)%8<=7:=aI (aQ _ dT);refine zM (vU (((((2*g.Z7)%4294967296)+1)%4294967296)%8)) R dT<|zV (.agg [.X 11 0 8 false,vU (((((2*g.Z7)%4294967296)+1)%4294967296)%8),.X 42 0 g.I.length false])<|dK R ⟨(by show 0+8<=((g.m.set (gO g pc) (⟨pc,next⟩:Gs)).map dn).length;exact ad),tr,(by show 0+g.I.length<=(g.I.map dU).length;exact ad),tr⟩ R ?_;show AV.agg [.Y 2 (List.take 8 (List.drop 0 ((g.m.set (gO g pc) (⟨pc,next⟩:Gs)).map dn))) false,vU (((((2*g.Z7)%4294967296)+1)%4294967296)%8),.Y 1 (List.take g.I.length (List.drop 0 (g.I.map dU))) false]=_;rw[jW dn (g.m.set (gO g pc) (⟨pc,next⟩:Gs)) ad,jW dU g.I ad];refine am (λz=>AV.agg (i_ z)) (?_:(⟨g.m.set (gO g pc) (⟨pc,next⟩:Gs),((((2*g.Z7)%4294967296)+1)%4294967296)%8,g.I⟩:Gu)=fM g pc next i);unfold fM;rw[aa j];have z:=d;have a:=k;have b:=n;have c:b_ pc=(pc+4)%4294967296:=rfl;rw[c]
  try simp[qA]at z a b
  simp[z,a,b,j0]<;>(intros;first|omega|simp_all)
 have x:=wN d;refine zF (x:=.X 34 0 0 false) (h':=an _ 34 (some (.arr (([]:List Nat).map dU) 1))) R (⟨dT,dT,by show((5:Nat):Int)<=1000000;omega⟩)<|zF (x:=.X 39 0 g.I.length false) (h':=an (an _ 34 none) 39 (some (.arr (g.I.map dU) 1))) (iP dU ([]:List Nat) g.I ad ad) (⟨by exact ad,by exact ad,tr⟩)<|zV (vN g.I.length)<|zC (RH i t)<|zB R (λo=>?_) (λo=>?_)
 .skip
  have G:(pc+4)%4294967296<=4294967295:=aI (aQ _ dT);refine rV (vU ((pc+4)%4294967296)) R<|rV (.Y 1 ([[vU ((pc+4)%4294967296)]]) true) R<|zF (x:=.X 51 0 (g.I.length+1) false) (h':=an (an _ 39 none) 51 (some (.arr ((g.I++([(pc+4)%4294967296])).map dU) 1))) (iP dU g.I ([(pc+4)%4294967296]) ad ad) (⟨by exact ad,by exact ad,tr⟩)<|rV (vN (g.I.length+1)) R<|zW (vB (decide ((g.I.length+1)>4))) (ak (fq _ _))<|zB R (λq=>?_) (λq=>?_)
  .have A:=ax q;refine zM (.X 51 1 (g.I.length+1-1) false) (LR (by first|rfl|omega) (by simp only[Option.getD];omega)) g_ ?_;have H:((2*g.Z7)%4294967296)%8<=7:=aI (aQ _ dT);refine zM (vU (((2*g.Z7)%4294967296)%8)) R dT<|zV (.agg [.X 11 0 8 false,vU (((2*g.Z7)%4294967296)%8),.X 51 1 (g.I.length+1-1) false])<|dK R ⟨(by show 0+8<=((g.m.set (gO g pc) (⟨pc,next⟩:Gs)).map dn).length;exact ad),tr,(by show 1+(g.I.length+1-1)<=((g.I++([(pc+4)%4294967296])).map dU).length;exact ad),tr⟩ R ?_;show AV.agg [.Y 2 (List.take 8 (List.drop 0 ((g.m.set (gO g pc) (⟨pc,next⟩:Gs)).map dn))) false,vU (((2*g.Z7)%4294967296)%8),.Y 1 (List.take (g.I.length+1-1) (List.drop 1 ((g.I++([(pc+4)%4294967296])).map dU))) false]=_;rw[jW dn (g.m.set (gO g pc) (⟨pc,next⟩:Gs)) ad,Cp (M:=(g.I++([(pc+4)%4294967296])).drop 1) dU (g.I++([(pc+4)%4294967296])) (aN ad)];refine am (λz=>AV.agg (i_ z)) (?_:(⟨g.m.set (gO g pc) (⟨pc,next⟩:Gs),((2*g.Z7)%4294967296)%8,(g.I++([(pc+4)%4294967296])).drop 1⟩:Gu)=fM g pc next i);unfold fM;rw[aa j];have z:=d;have a:=o;have b:=q;have c:b_ pc=(pc+4)%4294967296:=rfl;rw[c]
   try simp[qA]at z a b
   simp[z,a,b,j0]<;>(intros;first|omega|simp_all)
  have A:=aF q;have I:((2*g.Z7)%4294967296)%8<=7:=aI (aQ _ dT);refine zM (vU (((2*g.Z7)%4294967296)%8)) R dT<|zV (.agg [.X 11 0 8 false,vU (((2*g.Z7)%4294967296)%8),.X 51 0 (g.I.length+1) false])<|dK R ⟨(by show 0+8<=((g.m.set (gO g pc) (⟨pc,next⟩:Gs)).map dn).length;exact ad),tr,(by show 0+(g.I.length+1)<=((g.I++([(pc+4)%4294967296])).map dU).length;exact ad),tr⟩ R ?_;show AV.agg [.Y 2 (List.take 8 (List.drop 0 ((g.m.set (gO g pc) (⟨pc,next⟩:Gs)).map dn))) false,vU (((2*g.Z7)%4294967296)%8),.Y 1 (List.take (g.I.length+1) (List.drop 0 ((g.I++([(pc+4)%4294967296])).map dU))) false]=_;rw[jW dn (g.m.set (gO g pc) (⟨pc,next⟩:Gs)) ad,jW dU (g.I++([(pc+4)%4294967296])) ad];refine am (λz=>AV.agg (i_ z)) (?_:(⟨g.m.set (gO g pc) (⟨pc,next⟩:Gs),((2*g.Z7)%4294967296)%8,g.I++([(pc+4)%4294967296])⟩:Gu)=fM g pc next i);unfold fM;rw[aa j];have z:=d;have a:=o;have b:=q;have c:b_ pc=(pc+4)%4294967296:=rfl;rw[c]
  try simp[qA]at z a b
  simp[z,a,b,j0]<;>(intros;first|omega|simp_all)
 refine zC (q7 i t)<|aw rfl id (ak (fq _ _))<|zN rfl (λh=>h)<|zB R (λr=>?_) (λr=>?_)
 .have s:Gb i=true/\0<g.I.length:=by simpa [qA]using r
  have B:=s.2;have J:g.I.length-1<=9223372036854775807:=aL (jT _ _) e.I;refine rW (vN (g.I.length-1)) R (ap (DA ad e.I R))<|zM (.X 39 0 (g.I.length-1) false) (LR (by first|rfl|omega) (by simp only[Option.getD];omega)) g_ ?_;have K:((2*g.Z7)%4294967296)%8<=7:=aI (aQ _ dT);refine zM (vU (((2*g.Z7)%4294967296)%8)) R dT<|zV (.agg [.X 11 0 8 false,vU (((2*g.Z7)%4294967296)%8),.X 39 0 (g.I.length-1) false])<|dK R ⟨(by show 0+8<=((g.m.set (gO g pc) (⟨pc,next⟩:Gs)).map dn).length;exact ad),tr,(by show 0+(g.I.length-1)<=(g.I.map dU).length;exact ad),tr⟩ R ?_;show AV.agg [.Y 2 (List.take 8 (List.drop 0 ((g.m.set (gO g pc) (⟨pc,next⟩:Gs)).map dn))) false,vU (((2*g.Z7)%4294967296)%8),.Y 1 (List.take (g.I.length-1) (List.drop 0 (g.I.map dU))) false]=_;rw[jW dn (g.m.set (gO g pc) (⟨pc,next⟩:Gs)) ad,Cp (M:=g.I.take (g.I.length-1)) dU g.I (by rw[bS])];refine am (λz=>AV.agg (i_ z)) (?_:(⟨g.m.set (gO g pc) (⟨pc,next⟩:Gs),((2*g.Z7)%4294967296)%8,g.I.take (g.I.length-1)⟩:Gu)=fM g pc next i);unfold fM;rw[aa j];have z:=d;have a:=o;have b:=r;have c:b_ pc=(pc+4)%4294967296:=rfl;rw[c]
  try simp[qA]at z a b
  simp[z,a,b,j0]<;>(intros;first|omega|simp_all)
 have s: ¬(Gb i=true/\0<g.I.length):=by simpa [qA]using r
 have L:((2*g.Z7)%4294967296)%8<=7:=aI (aQ _ dT);refine zM (vU (((2*g.Z7)%4294967296)%8)) R dT<|zV (.agg [.X 11 0 8 false,vU (((2*g.Z7)%4294967296)%8),.X 39 0 g.I.length false])<|dK R ⟨(by show 0+8<=((g.m.set (gO g pc) (⟨pc,next⟩:Gs)).map dn).length;exact ad),tr,(by show 0+g.I.length<=(g.I.map dU).length;exact ad),tr⟩ R ?_;show AV.agg [.Y 2 (List.take 8 (List.drop 0 ((g.m.set (gO g pc) (⟨pc,next⟩:Gs)).map dn))) false,vU (((2*g.Z7)%4294967296)%8),.Y 1 (List.take g.I.length (List.drop 0 (g.I.map dU))) false]=_;rw[jW dn (g.m.set (gO g pc) (⟨pc,next⟩:Gs)) ad,jW dU g.I ad];refine am (λz=>AV.agg (i_ z)) (?_:(⟨g.m.set (gO g pc) (⟨pc,next⟩:Gs),((2*g.Z7)%4294967296)%8,g.I⟩:Gu)=fM g pc next i);unfold fM;rw[aa j];have z:=d;have a:=o;have b:=r;have c:b_ pc=(pc+4)%4294967296:=rfl;rw[c]
 try simp[qA]at z a b
 simp[z,a,b,j0]<;>(intros;first|omega|simp_all)
end Go.Proofs.YtiaekocjeinkjaaGreatDoor
