import Derived.Test.YtiaekocjeinkjaaGreatDoorS34
set_option linter.all false
namespace Go.Proofs.YtiaekocjeinkjaaGreatDoor
open Go.Proofs.Tryz
set_option maxRecDepth 100000
set_option maxHeartbeats 4000000
open Go.RowKit
def XZ(a:Addr)(k:Nat)(w:World):Calls Tryz.prog 115 #[.slice (some a) 0 k] w λe w'=>∃v,e=.returned v/\Below w.heap.size w w'/\∃A c,v=.slice A 0 c/\c<=maxLen:=by
 obtain⟨i0,z0,hi, -⟩:=(gr.ty 172 _ R).ZR
 go_enter func115,ntmps115
 have hb:Sem.run Tryz.prog (binOp .eql 60 (.slice (some a) 0 k) (.slice none 0 0)) w=.ok (.bool false) w:=by
  have e1:(Op.equal 60 (.slice (some a) 0 k) (.slice none 0 0)).run Tryz.prog w=.ok (some a).isNone w:=Bx Tryz.prog w 9999 _ 172 (gr.ty 60 _ R).kd _ _ _;simp only[binOp,Sem.run_bind,e1,Result.andThen_ok];rfl
 go_wp2_with (first|(rw[hb];simp only[Result.andThen_ok,Oper.upon])|(at_builtin;refine yE rfl (.tmp 5) (.tmp 6) 60 rfl 172 i0 (gr.ty 60 _ rfl).kd hi _ _ _ _ rfl rfl ?_))
 go_ret
 exact⟨_,rfl,(Below.refl _ _).alloc (aC _) _,_,_,rfl,aE _⟩
def NQ(k:Nat):bI C0 115 [.v (.slice none 0 k)] (.Y 0 [] true):=by
 refine bc func115 R<|rV (vB true) R<|cg 1 R ?_;exact fT R R
def Va(k:Bool):bI C0 115 [.Y 17 [] k] (.Y 17 [] false):=by
 refine⟨(NQ 0).1,λS w s r q d=>?_⟩
 match s,d with
 |[],d=>simp[b6]at d
 |_::_::_,d=>simp[b6]at d
 | [v],d=>
  have l:=d.2 0 _ v R R
  cases l with
  | Y _ _ _ A c b o u z B t x y C f h'=>
   cases A with
   |none=>exact((NQ c).sub (oM 17 false)).2 S w _ r q (b6.cons (.v _) (b6.nil _ _ _))
   |some a=>
    exact(XZ a c w).mono λe w' ⟨v,f,m,A,g,n,p⟩=>⟨v,f,m,n ▸ .Y 17 [] false A g 0 0 (λ_ _=>.bool false) (aE _) p (λh=>by cases h) (λ_ h=>by cases h) (λh=>absurd h (iI 0)) (λi row j a h=>by simp at h) (λ_ _=>rfl) λi row j a h=>by simp at h⟩
def Vb{p:Prop}{H:AH}{s:Nat}(e:ai)(l:List ai):b1.fx p (.X s 0 (([]:List (List AV)).length+((e::l).map ab).length) false) (an H s (some (.arr (([]:List (List AV))++(e::l).map ab) 17)))=.fx p (.X s 0 (l.length+1) false) (an H s (some (.arr ((e::l).map ab) 17))):=by
 rw[iA,aH,bN,cX,bJ]
def Ya(e:ai)(l:List ai)(a:Bool)(b:l.length<=1000):pM C0.P C0.G 115 [.Y 17 ((e::l).map ab) a] (aq []) 0 (λx h'=>x=.X 0 0 (l.length+1) false/\h'=aq [(0,.arr ((e::l).map ab) 17)]):=by
 refine HCall.intro (C:=C0) (s:=0) gr.at func115 R R (by kernel_rfl) R R<|qS 0 R<|rV (vB false) R<|qR 1 R<|zV (.Y 17 ([]) true)<|zF (x:=.X 5 0 (l.length+1) false) (h':=an _ 5 (some (.arr ((e::l).map ab) 17))) (Vb e l) (⟨by simp only[aH,bN,cX,jH];omega,by simp,tr,tr⟩) ?_;exact BH (rs:=[.X 5 0 (l.length+1) false]) R (r:=.X 0 0 (l.length+1) false) (σ:=λ_=>5) ⟨R,R⟩ R (ah (λ_=>5) R R wH R)
def VW(l:List Ft)(a:Bool)(b:l.length<=1000000):bI C0 116 [.Y 2 (l.map a_) a] (.Y 2 (l.map a_) true):=by
 refine bc func116 R<|zW _ (cD a_ l)<|rW _ R (cD a_ l)<|zM _ (yB (vY a_ l l.length)) (by refine⟨?_,?_,?_,?_⟩;all_goals (first|exact aG _|decide|(apply FG.2;exact ad)|(show(_:Int)=(_:Int);congr 1;omega)|rfl))<|fT rfl ?_;show AV.Y 2 (List.map a_ (List.take l.length l)) true=_;rw[cH]
def VX(l:List Pt)(a:Bool)(b:l.length<=1000000):bI C0 117 [.Y 2 (l.map ay) a] (.Y 2 (l.map ay) true):=by
 refine bc func117 R<|zW _ (cD ay l)<|rW _ R (cD ay l)<|zM _ (yB (vY ay l l.length)) (by refine⟨?_,?_,?_,?_⟩;all_goals (first|exact aG _|decide|(apply FG.2;exact ad)|(show(_:Int)=(_:Int);congr 1;omega)|rfl))<|fT rfl ?_;show AV.Y 2 (List.map ay (List.take l.length l)) true=_;rw[cH]
def VY(l:List bp)(a:Bool)(b:l.length<=1000000):bI C0 118 [.Y 4 (l.map bv) a] (.Y 4 (l.map bv) true):=by
 refine bc func118 R<|zW _ (cD bv l)<|rW _ R (cD bv l)<|zM _ (yB (vY bv l l.length)) (by refine⟨?_,?_,?_,?_⟩;all_goals (first|exact aG _|decide|(apply FG.2;exact ad)|(show(_:Int)=(_:Int);congr 1;omega)|rfl))<|fT rfl ?_;show AV.Y 4 (List.map bv (List.take l.length l)) true=_;rw[cH]
def VZ(l:List Sp)(a:Bool)(b:l.length<=1000000):bI C0 119 [.Y 9 (l.map a2) a] (.Y 9 (l.map a2) true):=by
 refine bc func119 R<|zW _ (cD a2 l)<|rW _ R (cD a2 l)<|zM _ (yB (vY a2 l l.length)) (by refine⟨?_,?_,?_,?_⟩;all_goals (first|exact aG _|decide|(apply FG.2;exact ad)|(show(_:Int)=(_:Int);congr 1;omega)|rfl))<|fT rfl ?_;show AV.Y 9 (List.map a2 (List.take l.length l)) true=_;rw[cH]
def qQ{c:Co}{fz:Fz}{R b F a S d T e:AV}(g:e4 fz R b)(f:e4 fz F a)(h:e4 fz S d)(i:e4 fz T e):lh fz (az c R F S T) (az c b a d e):=
 ⟨.refl _,.refl _,.refl _,.refl _,.refl _,.refl _,.refl _,.refl _,.refl _,.refl _,.refl _,.refl _,.refl _,.refl _,.refl _,.refl _,.refl _,.refl _,.refl _,.refl _,.refl _,.refl _,.refl _,.refl _,.refl _,.refl _,.refl _,.refl _,.refl _,.refl _,.refl _,.refl _,.refl _,.refl _,.refl _,.refl _,.refl _,.refl _,.refl _,.refl _,.refl _,.refl _,.refl _,.refl _,.refl _,.refl _,.refl _,f,g,.refl _,h,.refl _,.refl _,.refl _,.refl _,.refl _,.refl _,.refl _,.refl _,.refl _,.refl _,.refl _,.refl _,i,trivial⟩
def SY{C:a5}{b:Func}{bs:AV->AH->Prop}{s:Nat}{st a:a4}{rs:List AV}(c:gx C st b.results.toList=some rs)(f:j9 ⟨Ge (Dp rs),st.h,st.n⟩ a){r:AV}{h':AH}{σ:Nat->Nat}(d:bs r h')(g:ef s σ (s+1)=true)(e:di a ⟨Ge r,h',s+1⟩ σ):
  ∃rs,gx C st b.results.toList=some rs/\he ⟨Ge (Dp rs),st.h,st.n⟩ (λa=>∃r h' σ,bs r h'/\ef s σ (s+1)=true/\di a ⟨Ge r,h',s+1⟩ σ):=
 ⟨rs,c,.mk _ f ⟨r,h',σ,d,g,e⟩⟩
def qT{x r:AV}{h:AH}{a:Nat}{hp:List (Nat×a')}{n:Nat}(σ:Nat->Nat)(e:x=uW σ r)(b:mR n r=true)(c:WH ⟨a6 [(0,x)],h,a⟩ n σ hp)(d:En ((hp.map (·.1)).map σ)=true):di ⟨a6 [(0,x)],h,a⟩ ⟨Ge r,aq hp,n⟩ σ:=by
 have W:=au (st:=⟨a6 [(0,x)],h,a⟩) (l:=[(0,r)]) (hp:=hp) (n:=n) σ ⟨⟨e,b⟩,tr⟩ c d;refine⟨λi=>?_,W.h,W.inj⟩;have:=W.t i
 cases i with
 |zero=>exact this
 |succ i=>exact .inl R
theorem j9.snoc{a b c:a4}{fz:Fz}(h:j9 a b)(k:kx b c fz):j9 a c:=by
 induction h with
 |refl=>exact .step fz k (.refl _)
 |step f g _ ih=>exact .step f g (ih k)
abbrev xl (fz:Fz) (i:Nat):Prop:=match fz with|some (b,_,_)=>Nat.beq i b=false|none=>True
abbrev S9 (fz:Fz) (h:AH):Prop:=match fz with|some (x,rs,rows)=>h x=some (.arr rows rs)|none=>True
def i9{st:a4}{fz:Fz}{i:Nat}{a c:List AV}{l:List (Nat×a')}(e:st.h i=some (.box a))(d:lh fz a c)(f:GH st fz l)(g:xl fz i:=by first|exact trivial|rfl):GH st fz ((i,.box c)::l):=⟨⟨by rcases fz with _|⟨b,r,q⟩<;>exact g,_,e,.ZU d⟩,f⟩
def mb{st:a4}{fz:Fz}{i:Nat}{b:a'}{l:List (Nat×a')}(a:st.h i=some b)(c:GH st fz l)(d:xl fz i:=by first|exact trivial|rfl):GH st fz ((i,b)::l):=⟨⟨by rcases fz with _|⟨b,r,q⟩<;>exact d,_,a,.refl _⟩,c⟩
def Jg{C:a5}{c:Func}{bs:AV->AH->Prop}{s:Nat}{st a:a4}{hp:List (Nat×a')}(i:j9 ⟨Ge (.F []),st.h,st.n⟩ a)(fz:Fz)(g:bs (.F []) (aq hp))(f:GH a fz hp)(e:gx C st c.results.toList=some []:=by rfl)(h:S9 fz a.h:=by first|exact trivial|rfl)(m:e4 fz (a.t 0) (.F []):=by exact .refl _)(l:ef s (λz=>z) (s+1)=true:=by rfl)(j:WH ⟨a6 [(0,.F [])],aq hp,a.n⟩ (s+1) (λz=>z) hp:=by exact wH)(k:En ((hp.map (·.1)).map (λz=>z))=true:=by rfl):
  ∃rs,gx C st c.results.toList=some rs∧he ⟨Ge (Dp rs),st.h,st.n⟩ (λd=>∃r h' σ,bs r h'∧ef s σ (s+1)=true∧di d ⟨Ge r,h',s+1⟩ σ):=
 SY (rs:=[]) e (i.snoc (ee (l:=[(0,.F [])]) (by rcases fz with _|⟨b,r,q⟩<;>exact h) ⟨m,trivial⟩ f)) g l (qT (λz=>z) R R j k)
def A4(c:Co)(g:Nat)(a:c.E g)(d b e f:Bool):pM C0.P C0.G 74 [.ptr 0 0] (aq [(0,.box (az c (.Y 17 [] d) (.Y 2 (c.L.map a_) b) (.Y 2 (c.V.map ay) e) (.Y 9 (c.N.map a2) f)))]) 1 (λx h'=>x=.F []/\h'=aq [(0,.box (az c (.Y 17 [] false) (.Y 2 (c.L.map a_) true) (.Y 2 (c.V.map ay) true) (.Y 9 (c.N.map a2) true)))]):=by
 refine HCall.intro (C:=C0) (s:=1) gr.at func74 R R (by kernel_rfl) R R<|qS 0 R<|aW R (Va d)<|d_ 0 R<|a1 R<|qR 0 R<|aW R (VW c.L b (oH a.Z5))<|d_ 0 R<|a1 R<|qR 0 R<|aW R (VX c.V e (oH a.Z'))<|d_ 0 R<|a1 R<|qR 0 R<|zC (VY c.U false (oH a.U))<|zC (VZ c.N f (oH a.ret)) ?_;exact SY (rs:=[]) R (.step none (ee (l:=[(0,.F [])]) (hp:=[(0,.box (az c (.Y 17 [] false) (.Y 2 (c.L.map a_) true) (.Y 2 (c.V.map ay) true) (.Y 9 (c.N.map a2) true)))]) tr ⟨.refl _,tr⟩ ⟨⟨tr,_,R,eg.ZU ⟨.refl _,.refl _,.refl _,.refl _,.refl _,.refl _,.refl _,.refl _,.refl _,.refl _,.refl _,.refl _,.refl _,.refl _,.refl _,.refl _,.refl _,.refl _,.refl _,.refl _,.refl _,.refl _,.refl _,.refl _,.refl _,.refl _,.refl _,.refl _,.refl _,.refl _,.refl _,.refl _,.refl _,.refl _,.refl _,.refl _,.refl _,.refl _,.refl _,.refl _,.refl _,.refl _,.refl _,.refl _,.refl _,.refl _,.refl _,.refl _,.refl _,.refl _,.refl _,.refl _,.refl _,.refl _,.refl _,.clip _ _,.refl _,.refl _,.refl _,.refl _,.refl _,.refl _,.refl _,.refl _,tr⟩⟩,tr⟩) (.refl _)) (r:=.F []) (σ:=λz=>z) ⟨R,R⟩ R (qT (λz=>z) R R wH R)
def A5(c:Co)(j:Nat)(a:c.E j)(e:ai)(l:List ai)(b:(e::l).length<=1000)(f d g h:Bool):pM C0.P C0.G 74 [.ptr 0 0] (aq [(0,.box (az c (.Y 17 ((e::l).map ab) f) (.Y 2 (c.L.map a_) d) (.Y 2 (c.V.map ay) g) (.Y 9 (c.N.map a2) h)))]) 1 (λx h'=>x=.F []/\h'=aq [(0,.box (az c (.X 1 0 (l.length+1) false) (.Y 2 (c.L.map a_) true) (.Y 2 (c.V.map ay) true) (.Y 9 (c.N.map a2) true))),(1,.arr ((e::l).map ab) 17)]):=by
 refine HCall.intro (C:=C0) (s:=1) gr.at func74 R R (by kernel_rfl) R R ?_;have i:l.length+1<=1000:=b;refine qS 0 R<|fU _ R R R ((Ya e l f ad).Zi _ _ R) ?_;rintro _ _ ⟨rfl,rfl⟩;refine d_ 0 R<|a1 R<|qR 0 R<|aW R (VW c.L d (oH a.Z5))<|d_ 0 R<|a1 R<|qR 0 R<|aW R (VX c.V g (oH a.Z'))<|d_ 0 R<|a1 R<|qR 0 R<|zC (VY c.U false (oH a.U))<|zC (VZ c.N h (oH a.ret)) ?_;exact SY (rs:=[]) R (.step none (ee (l:=[(0,.F [])]) (hp:=[(0,.box (az c (.X 7 0 (l.length+1) false) (.Y 2 (c.L.map a_) true) (.Y 2 (c.V.map ay) true) (.Y 9 (c.N.map a2) true))),(7,.arr ((e::l).map ab) 17)]) tr ⟨.refl _,tr⟩ ⟨⟨tr,_,R,eg.ZU ⟨.refl _,.refl _,.refl _,.refl _,.refl _,.refl _,.refl _,.refl _,.refl _,.refl _,.refl _,.refl _,.refl _,.refl _,.refl _,.refl _,.refl _,.refl _,.refl _,.refl _,.refl _,.refl _,.refl _,.refl _,.refl _,.refl _,.refl _,.refl _,.refl _,.refl _,.refl _,.refl _,.refl _,.refl _,.refl _,.refl _,.refl _,.refl _,.refl _,.refl _,.refl _,.refl _,.refl _,.refl _,.refl _,.refl _,.refl _,.refl _,.refl _,.refl _,.refl _,.refl _,.refl _,.refl _,.refl _,.clip _ _,.refl _,.refl _,.refl _,.refl _,.refl _,.refl _,.refl _,.refl _,tr⟩⟩,⟨tr,_,R,.refl _⟩,tr⟩) (.refl _)) (r:=.F []) (σ:=λz=>match z with|1=>7|z=>z) ⟨R,R⟩ R (qT (λz=>match z with|1=>7|z=>z) R R wH R)
def Qz{g:Gu}(h:g.ok)(pc:Nat)(i:SI):xC g pc i<=4294967295:=by
 unfold xC;split
 .split
  .cases a:g.I.getLast? with
   |none=>exact aE _
   |some x=>exact h.ro x (List.mem_of_getLast? a)
  .cases b:g.m[gO g pc]? with
   |none=>exact uT _
   |some s=>
    dsimp only;split
    .exact(h.so s (aB b)).next
    .exact uT _
 .exact uT _
def QA{c:Cf}(h:∀x∈c.tape,x<=4294967295)(k:Int)(pc:Nat):yG c k pc<=4294967295:=by
 have hp:=Iq h;unfold yG;generalize (bZ c).tape=l at hp
 cases l with
 |nil=>exact uT _
 |cons y l=>
  show(y::l).getD _ _<=_;rw[aR]
  cases a:(y::l)[(max k 0).toNat%(y::l).length]? with
  |none=>exact aE _
  |some x=>exact hp x (aB a)
def QB{c:Co}{n:Nat}(h:c.E n)(w:Nat):(dM c w).2<=4294967295:=by
 unfold dM;split
 .exact uT _
 split
 .exact Qz h.ok.K _ _
 exact QA h.Q.tp _ _
def Bn(c:Co)(w:Nat):(dM c w).1.L=c.L:=by
 unfold dM;split
 .rfl
 split<;>rfl
def lJ(d:Co):Co:={d with u:=tO d.u (ao d.J)}
def AM{c:Co}{n:Nat}(h:c.E n):(lJ c).E n:=by
 have g:=ir.1 (h.gw.Zg (ao c.J));exact⟨⟨h.ok.Q,h.ok.prog,h.ok.Z4,h.ok.r,h.ok.J,h.ok.Z5,h.ok.ZV,h.ok.Z,h.ok.Z6,h.ok.Z',h.ok.Z0,h.ok.data,g.2,h.ok.U,h.ok.Z_,h.ok.asked,h.ok.Z1,h.ok.mem,h.ok.K,h.ok.ret,h.ok.ZW⟩,h.nb,h.cf,h.data,g.1,h.K,h.Z,h.Z5,h.Z',h.prog,h.mem,h.ZO⟩
def OJ{c:Co}{n:Nat}(h:c.E n)(w:Nat):(dM c w).1.E n:=by
 unfold dM;split
 .exact h
 split
 .exact h
 exact⟨⟨h.ok.Q,h.ok.prog,h.ok.Z4,h.ok.r,h.ok.J,h.ok.Z5,h.ok.ZV,h.ok.Z,h.ok.Z6,h.ok.Z',h.ok.Z0,h.ok.data,h.ok.u,h.ok.U,h.ok.Z_,h.ok.asked,EW _,h.ok.mem,h.ok.K,h.ok.ret,h.ok.ZW⟩,h.nb,h.cf,h.data,h.u,h.K,h.Z,h.Z5,h.Z',h.prog,h.mem,h.ZO⟩
def LL{c:Co}{n:Nat}(h:c.E n)(d:c.L.length<=999){x:Nat}(b:x<=4294967295):(LU c x).E n:=by
 have a:(c.L++[(⟨c.J,x⟩:Ft)]).length<=1000:=by simp;omega
 exact⟨⟨h.ok.Q,h.ok.prog,h.ok.Z4,h.ok.r,b,aL a dT,sJ h.ok.ZV (sK ⟨h.ok.J,b⟩),h.ok.Z,h.ok.Z6,h.ok.Z',h.ok.Z0,h.ok.data,h.ok.u,h.ok.U,h.ok.Z_,h.ok.asked,h.ok.Z1,h.ok.mem,h.ok.K,h.ok.ret,h.ok.ZW⟩,h.nb,h.cf,h.data,h.u,h.K,h.Z,a,h.Z',h.prog,h.mem,h.ZO⟩
def zP(d:Co):Co:=LU (dM (lJ d) (a8 d.prog d.J)).1 (dM (lJ d) (a8 d.prog d.J)).2
def tU(d:Co):(zP d).L=d.L++[⟨(dM (lJ d) (a8 d.prog d.J)).1.J,(dM (lJ d) (a8 d.prog d.J)).2⟩]:=by
 show(dM (lJ d) _).1.L++_=_;rw[Bn];rfl
def CW{c:Co}{n:Nat}(h:c.E n)(a:c.L.length<=999):(zP c).E n:=
 LL (OJ (AM h) _) (by rw[Bn];exact a) (QB (AM h) _)
def yZ{d:Co}{n:Nat}(h:d.stop=true\/(d.L.length:Int)>=d.Q.queue):ch n d=d:=by
 cases n with
 |zero=>rfl
 |succ n=>exact aa h
def Aq{d:Co}{n:Nat}(b:0<n)(h: ¬(d.stop=true\/(d.L.length:Int)>=d.Q.queue))(a:(es d.prog d.J).isSome=false):ch n d={d with L:=d.L++[⟨d.J,b_ d.J⟩],stop:=true}:=by
 cases n with
 |zero=>cases b
 |succ n=>exact(dZ h).trans (aa a)
def uD{d:Co}{n:Nat}(b:0<n)(h: ¬(d.stop=true\/(d.L.length:Int)>=d.Q.queue))(a: ¬(es d.prog d.J).isSome=false)(c:(bK d.u (ao d.J)).2.isSome=false):ch n d=if Ec d.U (ao d.J) 2=false/\tA d false=true then jE d 2 (ao d.J) oZ else d:=by
 cases n with
 |zero=>cases b
 |succ n=>exact((dZ h).trans (dZ a)).trans (aa c)
def BC{d:Co}{n k:Nat}(c:k<n)(h: ¬(d.stop=true\/(d.L.length:Int)>=d.Q.queue))(a: ¬(es d.prog d.J).isSome=false)(b: ¬(bK d.u (ao d.J)).2.isSome=false):ch (n-(k+1)) (zP d)=ch (n-k) d:=by
 rw[(oT:n-k=(n-(k+1))+1)];exact(((dZ h).trans (dZ a)).trans (dZ b)).symm
def WX(c:Co)(q:Nat)(b:c.E q)(w:Nat)(p:w<=4294967295)(i:Bool)(m:List (List AV))(g:Bool)(l:List (List AV))(j:Bool)(n:List (List AV))(k:Bool)(o:List (List AV)):pM C0.P C0.G 148 [.ptr 0 0,vU w] (aq [(0,.box (az c (.Y 17 m i) (.Y 2 l g) (.Y 2 n j) (.Y 9 o k)))]) 1 (λx h'=>x=vU (dM c w).2/\h'=aq [(0,.box (az (dM c w).1 (.Y 17 m i) (.Y 2 l g) (.Y 2 n j) (.Y 9 o k)))]):=by
 refine hZ 1 func148 R<|zC (IV w (CI p))<|zW _ (ak (db _ _))<|jQ (x:=vN (aj (be w).op)) (g:= !((g7 w) != 0)) R R R R (λh=>h) R R R (.inl R) R (λs=>pS (be w))<|aw R id (ak (db _ _))<|zN R (by simp)<|zB R (λd=>?_) (λd=>?_)
 .have a:(dq w=0\/aj (be w).op≠5):=by have z:=d;have e:=Cl w;simp only[ey,dE,dP,pX,iC,ne_eq]at z;grind
  have r:(c.J+4)%4294967296<=4294967295:=aI (aQ _ dT);refine zV (vU ((c.J+4)%4294967296)) ?_;rw[show dM c w=(c,b_ c.J)from aa a];exact BH (rs:=[vU ((c.J+4)%4294967296)]) R (r:=vU ((c.J+4)%4294967296)) (σ:=λz=>z) ⟨R,R⟩ R (ah (λz=>z) R R wH R)
 have a: ¬(dq w=0\/aj (be w).op≠5):=by have z:=d;have e:=Cl w;simp only[ey,dE,dP,pX,iC,ne_eq]at z;grind
 refine zB R (λf=>?_) (λf=>?_)
 .refine zR<|zC (RJ c.K c.J (be w) b.ok.K b.ok.J (aI (IU w))) ?_;rw[show dM c w=(c,xC c.K c.J (be w))from(dZ a).trans (aa f)];exact BH (rs:=[vU (xC c.K c.J (be w))]) R (r:=vU (xC c.K c.J (be w))) (σ:=λz=>z) ⟨R,R⟩ R (ah (λz=>z) R R wH R)
 refine zR<|zC (QV c.Q c.Z1 c.J b.Q b.ok.Z1 b.ok.J)<|rW _ R (ap (af _))<|d_ 0 R<|a1 R<|cg 0 R ?_;rw[show dM c w=({c with Z1:=wrap64 (c.Z1+1)},yG c.Q c.Z1 c.J)from(dZ a).trans (dZ (by rw[f];decide))];exact BH (rs:=[vU (yG c.Q c.Z1 c.J)]) R (r:=vU (yG c.Q c.Z1 c.J)) (σ:=λz=>z) ⟨R,R⟩ R (ah (λz=>z) R R wH R)
def TY(c:Co)(r:Nat)(b:c.E r)(w:Nat)(q:w<=4294967295)(i:Bool)(n:List (List AV))(l m:Nat)(g:Bool)(rF:List (List AV))(j:Bool)(o:List (List AV))(k:Bool)(p:List (List AV)):pM C0.P C0.G 148 [.ptr 0 0,vU w] (aq [(0,.box (az c (.Y 17 n i) (.X 1 l m g) (.Y 2 o j) (.Y 9 p k))),(1,.arr rF 2)]) 2 (λx h'=>x=vU (dM c w).2/\h'=aq [(0,.box (az (dM c w).1 (.Y 17 n i) (.X 1 l m g) (.Y 2 o j) (.Y 9 p k))),(1,.arr rF 2)]):=by
 refine hZ 2 func148 R<|zC (IV w (CI q))<|zW _ (ak (db _ _))<|jQ (x:=vN (aj (be w).op)) (g:= !((g7 w) != 0)) R R R R (λh=>h) R R R (.inl R) R (λt=>pS (be w))<|aw R id (ak (db _ _))<|zN R (by simp)<|zB R (λd=>?_) (λd=>?_)
 .have a:(dq w=0\/aj (be w).op≠5):=by have z:=d;have e:=Cl w;simp only[ey,dE,dP,pX,iC,ne_eq]at z;grind
  have s:(c.J+4)%4294967296<=4294967295:=aI (aQ _ dT);refine zV (vU ((c.J+4)%4294967296)) ?_;rw[show dM c w=(c,b_ c.J)from aa a];exact BH (rs:=[vU ((c.J+4)%4294967296)]) R (r:=vU ((c.J+4)%4294967296)) (σ:=λz=>z) ⟨R,R⟩ R (ah (λz=>z) R R wH R)
 have a: ¬(dq w=0\/aj (be w).op≠5):=by have z:=d;have e:=Cl w;simp only[ey,dE,dP,pX,iC,ne_eq]at z;grind
 refine zB R (λf=>?_) (λf=>?_)
 .refine zR<|zC (RJ c.K c.J (be w) b.ok.K b.ok.J (aI (IU w))) ?_;rw[show dM c w=(c,xC c.K c.J (be w))from(dZ a).trans (aa f)];exact BH (rs:=[vU (xC c.K c.J (be w))]) R (r:=vU (xC c.K c.J (be w))) (σ:=λz=>z) ⟨R,R⟩ R (ah (λz=>z) R R wH R)
 refine zR<|zC (QV c.Q c.Z1 c.J b.Q b.ok.Z1 b.ok.J)<|rW _ R (ap (af _))<|d_ 0 R<|a1 R<|cg 0 R ?_;rw[show dM c w=({c with Z1:=wrap64 (c.Z1+1)},yG c.Q c.Z1 c.J)from(dZ a).trans (dZ (by rw[f];decide))];exact BH (rs:=[vU (yG c.Q c.Z1 c.J)]) R (r:=vU (yG c.Q c.Z1 c.J)) (σ:=λz=>z) ⟨R,R⟩ R (ah (λz=>z) R R wH R)
def TZ(c:Co)(p:Nat)(G:c.E p)(b:Bool)(j:List (List AV))(f:Bool)(l:List (List AV))(g:Bool)(m:List (List AV)):pM C0.P C0.G 80 [.ptr 0 0] (aq [(0,.box (az c (.Y 17 j b) (.Y 2 (c.L.map a_) true) (.Y 2 l f) (.Y 9 m g)))]) 1 (λx h'=>x=.F []/\h'=aq [(0,.box (az (eN c) (.Y 17 j b) (.Y 2 ((eN c).L.map a_) false) (.Y 2 l f) (.Y 9 m g)))]):=by
 refine hZ 1 func80 R ?_;obtain⟨W,A,N⟩:∃W:Nat,c.Q.o=(W:Int)/\W<=2:=⟨c.Q.o.toNat,oH (pD G.cf),oH (pD G.cf)⟩;refine de (c.halt != 0) (λB=>?_) (λB=>?_)
 .have n:=wM B;have e:eN c=c:=aa n;rw[e];exact Jg (.refl _) none ⟨R,R⟩ (i9 R (qQ (.refl _) (.clip _ _) (.refl _) (.refl _)) tr)
 .have n:=wN B;refine sX (κ:=Nat×Co×Bool) (λt=>match t with|(k,d,false)=>⟨a6 [(0,.ptr 0 0),(14,vB (c.halt != 0)),(20,vI c.Q.o),(21,vN k)],aq [(0,.box (az d (.Y 17 j b) (.Y 2 (d.L.map a_) true) (.Y 2 l f) (.Y 9 m g)))],15⟩|(k,d,true)=>⟨a6 [(0,.ptr 0 0),(14,vB (c.halt != 0)),(20,vI c.Q.o),(21,vN k)],aq [(0,.box (az d (.Y 17 j b) (.X 14 0 d.L.length false) (.Y 2 l f) (.Y 9 m g))),(14,.arr (d.L.map a_) 2)],15⟩) (λt=>match t with|(k,d,_)=>k<=W/\d.E p/\ch (W-k) d=ch W c) (λt=>W-t.1) (0,c,false) (λs=>s) (au (λs=>s) wT wH R) R (⟨aE _,G,R⟩) ?_;intro t F;obtain⟨k,d,K⟩:=t;cases K
  all_goals
   have P:k<=W:=F.1;have I:k<=2:=oT;have a:d.E p:=F.2.1;have u:ch (W-k) d=ch W c:=F.2.2;refine qS 0 R<|de (decide ((k:Int)<c.Q.o)) (λC=>?_) (λC=>?_)
   .have H:=ax C;refine zR<|zG R id<|zG R id<|zG R id<|zG R id ?_
    first|refine gn (x:=vN d.L.length) R id (cD a_ d.L) ?_|refine gn (x:=vI (d.L.length:Int)) R id R ?_
    refine zG R id<|zG R id<|zG R id<|zG R id<|zG R id ?_
    first|refine gn (x:=vB (decide (((d.L.length:Nat):Int)>=d.Q.queue))) R b9 R ?_|refine gn (x:=vB (decide ((d.L.length:Int)>=d.Q.queue))) R b9 R ?_
    refine zN R (by simp)<|zB R (λD=>?_) (λD=>?_)
    .have o:(d.stop=true\/(d.L.length:Int)>=d.Q.queue):=by have z:=D;simpa [ey]using z
     refine ck 0 R ?_;have r:eN c=ch W c:=by show(if c.halt≠0 then c else ch c.Q.o.toNat c)=_;rw[dZ (λq=>q n),A];rfl
     have e:eN c=d:=by rw[r, <-u];exact yZ o
     rw[e]
     first|exact Jg (.refl _) none ⟨rfl,rfl⟩ (i9 rfl (qQ (.refl _) (.clip _ _) (.refl _) (.refl _)) trivial)|exact Jg (.refl _) (some (14,2,d.L.map a_)) ⟨rfl,rfl⟩ (i9 rfl (qQ (.refl _) (nB (by exact ad)) (.refl _) (.refl _)) trivial)
    .have o: ¬(d.stop=true\/(d.L.length:Int)>=d.Q.queue):=by have z:=D;simpa [ey]using z
     have O:d.L.length<=3:=oH (pD a.cf);refine zR<|zC (ND d.prog d.J false a.ok.Z4 (oH a.prog) a.ok.J)<|zB R (λv=>?_) (λv=>?_)
     .refine a7<|oR 16 R ?_;have Q:(d.J+4)%4294967296<=4294967295:=aI (aQ _ dT);refine rV (vU ((d.J+4)%4294967296)) R<|rV (.agg [vU d.J,vU ((d.J+4)%4294967296)]) R<|rV (.Y 2 ([[vU d.J,vU ((d.J+4)%4294967296)]]) true) R ?_
      first|refine eo (x:=.X 73 0 (d.L.length+1) false) (h':=an _ 73 (some (.arr ((d.L++([(⟨d.J,(d.J+4)%4294967296⟩:Ft)])).map a_) 2))) R R (Au a_ d.L ([(⟨d.J,(d.J+4)%4294967296⟩:Ft)]) ad) (⟨by exact ad,by exact ad,tr,tr⟩) ?_|refine eo (x:=.X 73 0 (d.L.length+1) false) (h':=an (an _ 14 none) 73 (some (.arr ((d.L++([(⟨d.J,(d.J+4)%4294967296⟩:Ft)])).map a_) 2))) R R (iP a_ d.L ([(⟨d.J,(d.J+4)%4294967296⟩:Ft)]) ad ad) (⟨by exact ad,by exact ad,tr⟩) ?_
      refine oR 3 R<|dv 0 (az d (.Y 17 j b) (.X 73 0 (d.L.length+1) false) (.Y 2 l f) (.Y 9 m g)) R R R<|rE 78<|nj 0 R<|dv 0 (az ({d with stop:=true}:Co) (.Y 17 j b) (.X 73 0 (d.L.length+1) false) (.Y 2 l f) (.Y 9 m g)) R R R<|cg 0 R<|ck 0 R ?_;have r:eN c=ch W c:=by show(if c.halt≠0 then c else ch c.Q.o.toNat c)=_;rw[dZ (λq=>q n),A];rfl
      have e:eN c={d with L:=d.L++[⟨d.J,b_ d.J⟩],stop:=true}:=by rw[r, <-u];exact Aq ad o (FV v)
      rw[e];exact Jg (.refl _) (some (73,2,(d.L++([(⟨d.J,(d.J+4)%4294967296⟩:Ft)])).map a_)) ⟨R,R⟩ (i9 R (qQ (.refl _) (nB (by exact ad)) (.refl _) (.refl _)) tr)
     .refine zC (tN d.J a.ok.J)<|zC (As d.u (ao d.J) a.ok.u (dV a.ok.J))<|zB R (λy=>?_) (λy=>?_)
      .refine rV (.Y 1 ([[vI 2]]) true) R<|zC (x:=vB (Ec d.U (ao d.J) 2)) ((show bI C0 _ [_,_,.Y 1 ([(2:Int)].map bm) true] _ from by rw[<-Kk];exact RQ d.U (ao d.J) [2] false true (oH a.U) (λx M=>(a.ok.Z_ x M).S) (dV a.ok.J) dT)) ?_
       first|refine jQ (x:=vB (tA d false)) (g:= !(Ec d.U (ao d.J) 2)) R R R R (λh=>h) R R R (.inr ⟨R,⟨tr,tr,tr⟩⟩) R (λL=>Ua d p a (.Y 17 j b) (.Y 2 (d.L.map a_) true) (.Y 2 l f) (.Y 9 m g) false) ?_|refine jQ (x:=vB (tA d false)) (g:= !(Ec d.U (ao d.J) 2)) R R R R (λh=>h) R R R (.inr ⟨R,⟨tr,tr,tr⟩⟩) R (λL=>Ua d p a (.Y 17 j b) .any (.Y 2 l f) (.Y 9 m g) false) ?_
       refine zN R (λh=>h)<|zB R (λE=>?_) (λE=>?_)
       all_goals
        first
         |have w:(Ec d.U (ao d.J) 2=false/\tA d false=true):=by have z:=E;simpa [iz]using z
          first|refine zH rfl ((mq d p a 2 (ao d.J) oZ (dV a.ok.J) b j true (d.L.map a_) f l g m).ZA (λz=>z) _ _ R ⟨⟨R,R,R,R⟩,tr⟩ R R R R) ?_|refine zH rfl ((z_ d p a 2 (ao d.J) oZ (dV a.ok.J) b j 0 d.L.length false (d.L.map a_) f l g m).ZA (λz=>match z with|1=>14|z=>z) _ _ R ⟨⟨R,R,R,R⟩,⟨R,R,R,R⟩,tr⟩ R R R R) ?_
          rintro _ _ ⟨rfl,rfl⟩
         |have w: ¬(Ec d.U (ao d.J) 2=false/\tA d false=true):=by have z:=E;simpa [iz]using z
        refine ck 0 R ?_;have r:eN c=ch W c:=by show(if c.halt≠0 then c else ch c.Q.o.toNat c)=_;rw[dZ (λq=>q n),A];rfl
        first|(have e:eN c=jE d 2 (ao d.J) oZ:=by rw[r, <-u];exact(uD ad o (sI v) (FV y)).trans (aa w))|(have e:eN c=d:=by rw[r, <-u];exact(uD ad o (sI v) (FV y)).trans (dZ w))
        rw[e]
        first|exact Jg (.refl _) none ⟨rfl,rfl⟩ (i9 rfl (qQ (.refl _) (.clip _ _) (.refl _) (.refl _)) trivial)|exact Jg (.refl _) (some (14,2,d.L.map a_)) ⟨rfl,rfl⟩ (i9 rfl (qQ (.refl _) (nB (by exact ad)) (.refl _) (.refl _)) trivial)
      .refine aW rfl (It d.u (ao d.J) a.ok.u (dV a.ok.J))<|d_ 0 rfl<|dv 0 (az ({d with u:=(tO d.u (ao d.J))}:Co) (.Y 17 j b) _ (.Y 2 l f) (.Y 9 m g)) R R R ?_;refine qR 0 R ?_
       first|refine zH rfl ((WX (lJ d) p (AM a) (a8 d.prog d.J) (LN a.ok.Z4 d.J) b j true (d.L.map a_) f l g m).ZA (λz=>z) _ _ R ⟨⟨R,R,R,R⟩,tr⟩ R R R R) ?_|refine zH rfl ((TY (lJ d) p (AM a) (a8 d.prog d.J) (LN a.ok.Z4 d.J) b j 0 d.L.length false (d.L.map a_) f l g m).ZA (λz=>match z with|1=>14|z=>z) _ _ R ⟨⟨R,R,R,R⟩,⟨R,R,R,R⟩,tr⟩ R R R R) ?_
       rintro _ _ ⟨rfl,rfl⟩;refine a7<|oR 12 R<|rV (.agg [vU ((dM (lJ d) (a8 d.prog d.J)).1.J),vU ((dM (lJ d) (a8 d.prog d.J)).2)]) R<|rV (.Y 2 ([[vU ((dM (lJ d) (a8 d.prog d.J)).1.J),vU ((dM (lJ d) (a8 d.prog d.J)).2)]]) true) R ?_
       first|refine eo (x:=.X 107 0 (d.L.length+1) false) (h':=an _ 107 (some (.arr ((d.L++([(⟨(dM (lJ d) (a8 d.prog d.J)).1.J,(dM (lJ d) (a8 d.prog d.J)).2⟩:Ft)])).map a_) 2))) R R (Au a_ d.L ([(⟨(dM (lJ d) (a8 d.prog d.J)).1.J,(dM (lJ d) (a8 d.prog d.J)).2⟩:Ft)]) ad) (⟨by exact ad,by exact ad,tr,tr⟩) ?_|refine eo (x:=.X 107 0 (d.L.length+1) false) (h':=an (an _ 14 none) 107 (some (.arr ((d.L++([(⟨(dM (lJ d) (a8 d.prog d.J)).1.J,(dM (lJ d) (a8 d.prog d.J)).2⟩:Ft)])).map a_) 2))) R R (iP a_ d.L ([(⟨(dM (lJ d) (a8 d.prog d.J)).1.J,(dM (lJ d) (a8 d.prog d.J)).2⟩:Ft)]) ad ad) (⟨by exact ad,by exact ad,tr⟩) ?_
       refine oR 3 R<|dv 0 (az ((dM (lJ d) (a8 d.prog d.J)).1) (.Y 17 j b) (.X 107 0 (d.L.length+1) false) (.Y 2 l f) (.Y 9 m g)) R R R<|rE 112<|nj 0 R<|dv 0 (az ({ (dM (lJ d) (a8 d.prog d.J)).1 with J:=(dM (lJ d) (a8 d.prog d.J)).2}:Co) (.Y 17 j b) (.X 107 0 (d.L.length+1) false) (.Y 2 l f) (.Y 9 m g)) R R R ?_;have J:k+1<=3:=aD I (aC 1);refine qR 0 R<|zW _ (ap (bH J R))<|.mk _ (.refl _) ⟨(k+1,zP d,true),λi=>match i with|14=>107|i=>i,au _ wT ⟨⟨R,(am (λz:Nat=>some (a'.box (az (zP d) (.Y 17 j b) (.X 107 0 z false) (.Y 2 l f) (.Y 9 m g)))) (show d.L.length+1=(zP d).L.length from by rw[tU];simp)),R⟩,⟨R,(am (λz:List Ft=>some (a'.arr (z.map a_) 2)) (tU d).symm),R⟩,tr⟩ R,R,⟨oT,CW a ad,(BC ad o (sI v) (sI y)).trans u⟩,by show W-(k+1)<W-k;omega⟩
   .have H:=aF C;have r:eN c=ch W c:=by show(if c.halt≠0 then c else ch c.Q.o.toNat c)=_;rw[dZ (λq=>q n),A];rfl
    have e:eN c=d:=by rw[r, <-u];rw[(oT:W-k=0)];rfl
    rw[e];refine ck 0 R ?_
    first|exact SY (rs:=[]) R (.step none (ee (l:=[(0,.F [])]) (hp:=[(0,.box (az (d) (.Y 17 j b) (.Y 2 (d.L.map a_) false) (.Y 2 l f) (.Y 9 m g)))]) tr ⟨.refl _,tr⟩ ⟨⟨tr,_,R,eg.ZU (qQ (.refl _) (.clip _ _) (.refl _) (.refl _))⟩,tr⟩) (.refl _)) (r:=.F []) (σ:=λz=>z) ⟨R,R⟩ R (qT (λz=>z) R R wH R)|exact SY (rs:=[]) R (.step (some (14,2,d.L.map a_)) (ee (l:=[(0,.F [])]) (hp:=[(0,.box (az (d) (.Y 17 j b) (.Y 2 (d.L.map a_) false) (.Y 2 l f) (.Y 9 m g)))]) R ⟨.refl _,tr⟩ ⟨⟨R,_,R,eg.ZU (qQ (.refl _) (nB (by exact ad)) (.refl _) (.refl _))⟩,tr⟩) (.refl _)) (r:=.F []) (σ:=λz=>z) ⟨R,R⟩ R (qT (λz=>z) R R wH R)
def Qy{c:Int}{f:Ft}{prog:List Nat}(a:f.ok):(qB c f prog).ok:=by
 have b:(be (a8 prog f.M)).C<=4294967295:=aI (IU _);unfold qB
 repeat' split
 all_goals first|exact⟨a.M,aE _,a.K,aE _,aE _,aE _⟩|exact⟨a.M,b,a.K,aE _,uT _,aE _⟩|exact⟨a.M,b,a.K,aE _,aE _,aE _⟩|exact⟨a.M,b,a.K,aE _,a.M,aE _⟩
def Kh(d:Co)(f:Ft):Co:={d with Z:=d.Z++[qB d.next f d.prog],next:=wrap64 (d.next+1),L:=d.L.drop 1}
def Ap{d:Co}{n:Nat}(h:(d.Z.length:Int)>=d.Q.Z\/d.L.length=0):cl n d=d:=by
 cases n with
 |zero=>rfl
 | succ n=>
  unfold cl;by_cases a:(d.Z.length:Int)>=d.Q.Z
  .exact aa a
  .rw[dZ a];have b:d.L=[]:=gq (h.resolve_left a);rw[b]
def CU{d:Co}{n k:Nat}{f:Ft}(c:k<n)(h: ¬(d.Z.length:Int)>=d.Q.Z)(a:d.L[0]?=some f):cl (n-(k+1)) (Kh d f)=cl (n-k) d:=by
 rw[(oT:n-k=(n-(k+1))+1)]
 conv=>rhs;unfold cl
 rw[dZ h];unfold Kh
 cases b:d.L with
 |nil=>rw[b]at a;cases a
 |cons y l=>rw[b]at a;injection a with a;subst a;rfl
def CV{c:Co}{n:Nat}{f:Ft}(h:c.E n)(d:f.ok)(e:c.Z.length<=999):(Kh c f).E n:=by
 have b:(c.Z++[qB c.next f c.prog]).length<=1000:=by simp;omega
 have a:(c.L.drop 1).length<=1000:=by have:=h.Z5;rw[bD];omega
 exact⟨⟨h.ok.Q,h.ok.prog,h.ok.Z4,h.ok.r,h.ok.J,aL a dT,Iz h.ok.ZV,aL b dT,sJ h.ok.Z6 (sK (P:=ai.ok) (Qy d)),h.ok.Z',h.ok.Z0,h.ok.data,h.ok.u,h.ok.U,h.ok.Z_,h.ok.asked,h.ok.Z1,h.ok.mem,h.ok.K,h.ok.ret,h.ok.ZW⟩,h.nb,h.cf,h.data,h.u,h.K,b,a,h.Z',h.prog,h.mem,h.ZO⟩
def VI(a:List ai)(m:Bool)(b:Int)(f:Ft)(prog:List Nat)(u:a.length<=1000)(v:∀x∈a,x.ok)(t:f.ok)(hp:∀x∈prog,x<=4294967295)(l:prog.length<=1000000):bI C0 141 [.Y 17 (a.map ab) m,vI b,.agg (a_ f),.Y 1 (prog.map dU) false] (.Y 17 ((a++[qB b f prog]).map ab) false):=by
 refine eb func141 R<|zV (.agg [vI b,vU f.M,vI 0,vI 0,vI 0,vI 0,zU,vU f.K,vI 0,vI 0,zU,zU,zU,vI 0,vI 0,vB false,vB false])<|zC (ND prog f.M false hp l t.M)<|zC (IV (a8 prog f.M) (CI (LN hp f.M)))<|zB R (λg=>?_) (λg=>?_)
 .refine de (1 != 0) (λ_=>?_) (λn=>by exact absurd n dT);refine zR<|zW (vN a.length) (cD ab a)<|zW (vN a.length) (cD ab a)<|zM (.Y 17 ((a.take a.length).map ab) true) (yB (vY ab a a.length)) (by refine⟨?_,?_,?_,?_⟩;all_goals (first|exact aG _|decide|(apply FG.2;exact ad)|(show(_:Int)=(_:Int);congr 1;omega)|rfl))<|zV (.Y 17 ([[vI b,vU f.M,vI 0,vI 0,vI 0,vI 0,zU,vU f.K,vI 3,vI 0,zU,zU,zU,vI 1,vI 0,vB false,vB false]]) true)<|zF (x:=.X 45 0 (a.length+1) false) (h':=an _ 45 (some (.arr (((a.take a.length)++([(⟨b,f.M,⟨0,0,0,0,0⟩,f.K,3,0,0,0,0,1,0,false,false⟩:ai)])).map ab) 17))) (Au ab (a.take a.length) ([(⟨b,f.M,⟨0,0,0,0,0⟩,f.K,3,0,0,0,0,1,0,false,false⟩:ai)]) ad) (⟨by exact ad,by exact ad,tr,tr⟩) ?_;have e:(⟨b,f.M,⟨0,0,0,0,0⟩,f.K,3,0,0,0,0,1,0,false,false⟩:ai)=qB b f prog:=by unfold qB;rw[aa (FV g)];rfl
  refine dK R (by show 0+(a.length+1)<=(((a.take a.length)++([(⟨b,f.M,⟨0,0,0,0,0⟩,f.K,3,0,0,0,0,1,0,false,false⟩:ai)])).map ab).length;exact ad) R ?_;show AV.Y 17 (List.take (a.length+1) (List.drop 0 (((a.take a.length)++([(⟨b,f.M,⟨0,0,0,0,0⟩,f.K,3,0,0,0,0,1,0,false,false⟩:ai)])).map ab))) false=_;rw[jW ab ((a.take a.length)++([(⟨b,f.M,⟨0,0,0,0,0⟩,f.K,3,0,0,0,0,1,0,false,false⟩:ai)])) ad];rw[e,cH]
 refine zW (vB ((g7 (a8 prog f.M)) != 0)) (ak (db _ _))<|zB R (λi=>?_) (λi=>?_)
 .have c:=wM i;refine de (2 != 0) (λ_=>?_) (λo=>by exact absurd o dT);refine zR<|zW (vN a.length) (cD ab a)<|zW (vN a.length) (cD ab a)<|zM (.Y 17 ((a.take a.length).map ab) true) (yB (vY ab a a.length)) (by refine⟨?_,?_,?_,?_⟩;all_goals (first|exact aG _|decide|(apply FG.2;exact ad)|(show(_:Int)=(_:Int);congr 1;omega)|rfl))<|zV (.Y 17 ([[vI b,vU f.M,vI 0,vI 0,vI 0,vI 0,zU,vU f.K,vI 3,vI 0,zU,zU,zU,vI 2,vI 0,vB false,vB false]]) true)<|zF (x:=.X 48 0 (a.length+1) false) (h':=an _ 48 (some (.arr (((a.take a.length)++([(⟨b,f.M,⟨0,0,0,0,0⟩,f.K,3,0,0,0,0,2,0,false,false⟩:ai)])).map ab) 17))) (Au ab (a.take a.length) ([(⟨b,f.M,⟨0,0,0,0,0⟩,f.K,3,0,0,0,0,2,0,false,false⟩:ai)]) ad) (⟨by exact ad,by exact ad,tr,tr⟩) ?_;have e:(⟨b,f.M,⟨0,0,0,0,0⟩,f.K,3,0,0,0,0,2,0,false,false⟩:ai)=qB b f prog:=by unfold qB;rw[dZ (sI g),aa (by have q:=Cl (a8 prog f.M);omega)];rfl
  refine dK R (by show 0+(a.length+1)<=(((a.take a.length)++([(⟨b,f.M,⟨0,0,0,0,0⟩,f.K,3,0,0,0,0,2,0,false,false⟩:ai)])).map ab).length;exact ad) R ?_;show AV.Y 17 (List.take (a.length+1) (List.drop 0 (((a.take a.length)++([(⟨b,f.M,⟨0,0,0,0,0⟩,f.K,3,0,0,0,0,2,0,false,false⟩:ai)])).map ab))) false=_;rw[jW ab ((a.take a.length)++([(⟨b,f.M,⟨0,0,0,0,0⟩,f.K,3,0,0,0,0,2,0,false,false⟩:ai)])) ad];rw[e,cH]
 have c:=wN i;refine de (((be (a8 prog f.M)).op)==47) (λj=>?_) (λj=>?_)
 .have d:=mT j;refine de (6 != 0) (λ_=>?_) (λp=>by exact absurd p dT);refine zR<|zW (vN a.length) (cD ab a)<|zW (vN a.length) (cD ab a)<|zM (.Y 17 ((a.take a.length).map ab) true) (yB (vY ab a a.length)) (by refine⟨?_,?_,?_,?_⟩;all_goals (first|exact aG _|decide|(apply FG.2;exact ad)|(show(_:Int)=(_:Int);congr 1;omega)|rfl))<|zV (.Y 17 ([[vI b,vU f.M,vI ((be (a8 prog f.M)).op),vI ((be (a8 prog f.M)).rd),vI ((be (a8 prog f.M)).y),vI ((be (a8 prog f.M)).A),vU ((be (a8 prog f.M)).C),vU f.K,vI 3,vI 0,zU,zU,zU,vI 6,vI 0,vB false,vB false]]) true)<|zF (x:=.X 55 0 (a.length+1) false) (h':=an _ 55 (some (.arr (((a.take a.length)++([(⟨b,f.M,be (a8 prog f.M),f.K,3,0,0,0,0,6,0,false,false⟩:ai)])).map ab) 17))) (Au ab (a.take a.length) ([(⟨b,f.M,be (a8 prog f.M),f.K,3,0,0,0,0,6,0,false,false⟩:ai)]) ad) (⟨by exact ad,by exact ad,tr,tr⟩) ?_;have e:(⟨b,f.M,be (a8 prog f.M),f.K,3,0,0,0,0,6,0,false,false⟩:ai)=qB b f prog:=by unfold qB;rw[dZ (sI g),dZ ((Cl _).1 c),aa d];rfl
  refine dK R (by show 0+(a.length+1)<=(((a.take a.length)++([(⟨b,f.M,be (a8 prog f.M),f.K,3,0,0,0,0,6,0,false,false⟩:ai)])).map ab).length;exact ad) R ?_;show AV.Y 17 (List.take (a.length+1) (List.drop 0 (((a.take a.length)++([(⟨b,f.M,be (a8 prog f.M),f.K,3,0,0,0,0,6,0,false,false⟩:ai)])).map ab))) false=_;rw[jW ab ((a.take a.length)++([(⟨b,f.M,be (a8 prog f.M),f.K,3,0,0,0,0,6,0,false,false⟩:ai)])) ad];rw[e,cH]
 have d:=nA j;refine de (((be (a8 prog f.M)).op)==48) (λk=>?_) (λk=>?_)
 .have h:=mT k;refine de (7 != 0) (λ_=>?_) (λr=>by exact absurd r dT);refine zR<|zW (vN a.length) (cD ab a)<|zW (vN a.length) (cD ab a)<|zM (.Y 17 ((a.take a.length).map ab) true) (yB (vY ab a a.length)) (by refine⟨?_,?_,?_,?_⟩;all_goals (first|exact aG _|decide|(apply FG.2;exact ad)|(show(_:Int)=(_:Int);congr 1;omega)|rfl))<|zV (.Y 17 ([[vI b,vU f.M,vI ((be (a8 prog f.M)).op),vI ((be (a8 prog f.M)).rd),vI ((be (a8 prog f.M)).y),vI ((be (a8 prog f.M)).A),vU ((be (a8 prog f.M)).C),vU f.K,vI 3,vI 0,zU,zU,zU,vI 7,vI 0,vB false,vB false]]) true)<|zF (x:=.X 57 0 (a.length+1) false) (h':=an _ 57 (some (.arr (((a.take a.length)++([(⟨b,f.M,be (a8 prog f.M),f.K,3,0,0,0,0,7,0,false,false⟩:ai)])).map ab) 17))) (Au ab (a.take a.length) ([(⟨b,f.M,be (a8 prog f.M),f.K,3,0,0,0,0,7,0,false,false⟩:ai)]) ad) (⟨by exact ad,by exact ad,tr,tr⟩) ?_;have e:(⟨b,f.M,be (a8 prog f.M),f.K,3,0,0,0,0,7,0,false,false⟩:ai)=qB b f prog:=by unfold qB;rw[dZ (sI g),dZ ((Cl _).1 c),dZ d,aa h];rfl
  refine dK R (by show 0+(a.length+1)<=(((a.take a.length)++([(⟨b,f.M,be (a8 prog f.M),f.K,3,0,0,0,0,7,0,false,false⟩:ai)])).map ab).length;exact ad) R ?_;show AV.Y 17 (List.take (a.length+1) (List.drop 0 (((a.take a.length)++([(⟨b,f.M,be (a8 prog f.M),f.K,3,0,0,0,0,7,0,false,false⟩:ai)])).map ab))) false=_;rw[jW ab ((a.take a.length)++([(⟨b,f.M,be (a8 prog f.M),f.K,3,0,0,0,0,7,0,false,false⟩:ai)])) ad];rw[e,cH]
 have h:=nA k;refine de (0 != 0) (λs=>by exact absurd s dT) (λ_=>?_);refine zR<|zW (vN a.length) (cD ab a)<|zW (vN a.length) (cD ab a)<|zM (.Y 17 ((a.take a.length).map ab) true) (yB (vY ab a a.length)) (by refine⟨?_,?_,?_,?_⟩;all_goals (first|exact aG _|decide|(apply FG.2;exact ad)|(show(_:Int)=(_:Int);congr 1;omega)|rfl))<|zV (.Y 17 ([[vI b,vU f.M,vI ((be (a8 prog f.M)).op),vI ((be (a8 prog f.M)).rd),vI ((be (a8 prog f.M)).y),vI ((be (a8 prog f.M)).A),vU ((be (a8 prog f.M)).C),vU f.K,vI 0,vI 0,zU,zU,zU,vI 0,vI 0,vB false,vB false]]) true)<|zF (x:=.X 53 0 (a.length+1) false) (h':=an _ 53 (some (.arr (((a.take a.length)++([(⟨b,f.M,be (a8 prog f.M),f.K,0,0,0,0,0,0,0,false,false⟩:ai)])).map ab) 17))) (Au ab (a.take a.length) ([(⟨b,f.M,be (a8 prog f.M),f.K,0,0,0,0,0,0,0,false,false⟩:ai)]) ad) (⟨by exact ad,by exact ad,tr,tr⟩) ?_;have e:(⟨b,f.M,be (a8 prog f.M),f.K,0,0,0,0,0,0,0,false,false⟩:ai)=qB b f prog:=by unfold qB;rw[dZ (sI g),dZ ((Cl _).1 c),dZ d,dZ h];rfl
 refine dK R (by show 0+(a.length+1)<=(((a.take a.length)++([(⟨b,f.M,be (a8 prog f.M),f.K,0,0,0,0,0,0,0,false,false⟩:ai)])).map ab).length;exact ad) R ?_;show AV.Y 17 (List.take (a.length+1) (List.drop 0 (((a.take a.length)++([(⟨b,f.M,be (a8 prog f.M),f.K,0,0,0,0,0,0,0,false,false⟩:ai)])).map ab))) false=_;rw[jW ab ((a.take a.length)++([(⟨b,f.M,be (a8 prog f.M),f.K,0,0,0,0,0,0,0,false,false⟩:ai)])) ad];rw[e,cH]
def WW(c:Co)(B:Nat)(A:c.E B)(j:Bool)(m:List (List AV))(l:Bool)(n:List (List AV)):pM C0.P C0.G 79 [.ptr 0 0] (aq [(0,.box (az c (.Y 17 (c.Z.map ab) false) (.Y 2 (c.L.map a_) true) (.Y 2 m j) (.Y 9 n l)))]) 1 (λx h'=>x=.F []/\h'=aq [(0,.box (az (lP c) (.Y 17 ((lP c).Z.map ab) false) (.Y 2 ((lP c).L.map a_) true) (.Y 2 m j) (.Y 9 n l)))]):=by
 refine hZ 1 func79 R ?_;obtain⟨W,D,I⟩:∃W:Nat,c.Q.o=(W:Int)/\W<=2:=⟨c.Q.o.toNat,oH (pD A.cf),oH (pD A.cf)⟩;refine de (c.halt != 0) (λr=>?_) (λr=>?_)
 .have g:=wM r;have e:lP c=c:=aa g;rw[e];exact du
 have g:=wN r;refine lb (κ:=Nat×Co×Bool) (λb=>match b with|(k,d,false)=>⟨a6 [(0,.ptr 0 0),(7,vB (c.halt != 0)),(13,vI c.Q.o),(14,vN k)],aq [(0,.box (az d (.Y 17 (d.Z.map ab) false) (.Y 2 (d.L.map a_) true) (.Y 2 m j) (.Y 9 n l)))],14⟩|(k,d,true)=>⟨a6 [(0,.ptr 0 0),(7,vB (c.halt != 0)),(13,vI c.Q.o),(14,vN k)],aq [(0,.box (az d (.Y 17 (d.Z.map ab) false) (.Y 2 (d.L.map a_) true) (.Y 2 m j) (.Y 9 n l)))],14⟩) (λb=>match b with|(k,d,_)=>k<=W/\d.E B/\cl (W-k) d=cl W c) (λb=>W-b.1) (0,c,false) (λs=>s) (au (λs=>s) wT wH R) R (⟨aE _,A,R⟩) ?_;intro b y;obtain⟨k,d,G⟩:=b;cases G
 all_goals
  have K:k<=W:=y.1;have E:k<=2:=oT;have a:d.E B:=y.2.1;have v:cl (W-k) d=cl W c:=y.2.2;refine de (decide ((k:Int)<c.Q.o)) (λt=>?_) (λt=>?_)
  .have C:=ax t;refine zR<|zW _ (cD ab d.Z)<|zV (vB (decide (((d.Z.length:Nat):Int)>=d.Q.Z)))<|zG R id<|zG R id<|zG R id<|zG R id<|gn (x:=vN d.L.length) R id (cD a_ d.L)<|gn (x:=vB (d.L.length==0)) R id (ak (ba _ _))<|zN R (by simp)<|zB R (λu=>?_) (λu=>?_)
   .have h:((d.Z.length:Int)>=d.Q.Z\/d.L.length=0):=by have z:=u;simpa [ey]using z
    have p:lP c=cl W c:=by show(if c.halt≠0 then c else cl c.Q.o.toNat c)=_;rw[dZ (λq=>q g),D];rfl
    have e:lP c=d:=by rw[p, <-v];exact Ap h
    rw[e];exact du
   have h: ¬((d.Z.length:Int)>=d.Q.Z\/d.L.length=0):=by have z:=u;simpa [ey]using z
   have L:d.Z.length<=7:=oH (pD a.cf);have J:0<d.L.length:=oT;refine a7<|oR 16 R ?_;obtain⟨f,w⟩:∃H,d.L[0]?=some H:=⟨_,aA ad⟩;have o:=a.ok.ZV f (aB w);refine FO (a_ f) (x:=.k 2 0 (a_ f)) R R R (⟨dT,iH w⟩) R<|oR 6 R<|aW R (VI d.Z false d.next f d.prog a.Z a.ok.Z6 o a.ok.Z4 (oH a.prog))<|oR 3 R<|a1 R<|rE 65<|qX 0 R<|rW _ R (ap (af _))<|d_ 0 R<|a1 R<|qR 0 R<|nW _ R (yB (Kr a_ d.L 1)) g_<|d_ 0 R<|a1 R ?_;have F:k+1<=3:=aD E (aC 1);refine qR 0 R<|zW _ (ap (bH F R))<|.mk _ (.refl _) ⟨(k+1,Kh d f,false),λi=>i,au _ wT wH R,R,⟨oT,CV a o ad,(CU ad (λq=>h (.inl q)) w).trans v⟩,by show W-(k+1)<W-k;omega⟩
  have C:=aF t;have p:lP c=cl W c:=by show(if c.halt≠0 then c else cl c.Q.o.toNat c)=_;rw[dZ (λq=>q g),D];rfl
  have e:lP c=d:=by rw[p, <-v];rw[(oT:W-k=0)];rfl
  rw[e];exact du
def yX(c:Co)(i:Nat)(e:ai):(fh c i e).Z.length=c.Z.length:=cC ..
def VG{e:ai}(h:e.ok):({e with is:=2}:ai).ok:=⟨h.M,h.C,h.K,h.value,h.next,h.W⟩
def WV{c:Co}{n i:Nat}{e:ai}(h:c.E n)(a:c.Z[i]?=some e):e.ok:=h.ok.Z6 e (aB a)
def OG{c:Co}{n:Nat}(h:c.E n)(d:n+1<=890000)(i:Nat):(oE c i).E (n+1)/\(oE c i).Z.length=c.Z.length/\(oE c i).halt=c.halt/\(oE c i).V=c.V/\(oE c i).L=c.L/\(oE c i).N=c.N:=by
 have a:c.E (n+1):=h.mono (fF _) d;unfold oE
 cases f:c.Z[i]? with
 |none=>exact⟨a,R,R,R,R,R⟩
 |some e=>
  have b:=WV h f;dsimp only
  repeat' split
  .exact⟨a,R,R,R,R,R⟩
  .exact⟨xA a i (Il b _),yX ..,R,R,R,R⟩
  .exact⟨a,R,R,R,R,R⟩
  .exact⟨xA a i (Il b _),yX ..,R,R,R,R⟩
  .exact⟨xA a i (VG b),yX ..,R,R,R,R⟩
  .exact⟨xA (sH h d 1 (dV b.W) oZ) i (VG b),yX ..,R,R,R,R⟩
  .exact⟨a,R,R,R,R,R⟩
def yY{c:Co}{n:Nat}(h:c.E n)(g:n+1<=890000)(i:Nat):(iS c i).E (n+1)/\(iS c i).Z.length=c.Z.length/\(iS c i).halt=c.halt/\(iS c i).V=c.V/\(iS c i).L=c.L/\(iS c i).N=c.N:=by
 have b:c.E (n+1):=h.mono (fF _) g;unfold iS
 cases j:c.Z[i]? with
 |none=>exact⟨b,R,R,R,R,R⟩
 | some e=>
  have d:=WV h j;have f:=Cj h.ok.Z6 h.ok.r i;dsimp only;split
  .exact⟨xA b i (Ik d _ _),yX ..,R,R,R,R⟩
  .split
   .have a:=OG (xA h i (Ik d c.mem.size (mI c.Z c.r i).1)) g i;exact⟨a.1,a.2.1.trans (yX ..),a.2.2.1,a.2.2.2.1,a.2.2.2.2.1,a.2.2.2.2.2⟩
   .exact⟨xA b i (QG d f.1 f.2),yX ..,R,R,R,R⟩
theorem Qw{agN:Int}{busy:Bool}{kinds:List Int}{can:List Bool}:∀k,∀i∈(kA agN busy kinds can k).out,i<k
 |0,i,h=>by simp[kA]at h
 | k+1,i,h=>by
  have ih:=Qw (agN:=agN) (busy:=busy) (kinds:=kinds) (can:=can) k;unfold kA IW at h
  repeat' split at h
  all_goals first
   |exact mW (ih i h)
   |(simp only[dz,uJ]at h;exact h.elim (λh=>mW (ih i h)) (λh=>by omega))
theorem VH{agN:Int}{busy:Bool}{kinds:List Int}{can:List Bool}(a:0<=agN):∀k,((kA agN busy kinds can k).out.length:Int)<=agN
 |0=>by simpa [kA]using a
 | k+1=>by
  have ih:=VH (agN:=agN) (busy:=busy) (kinds:=kinds) (can:=can) a k;unfold kA IW
  repeat' split
  all_goals first
   |exact ih
   |(simp only[aU,kG];push_cast;omega)
def MQ{a:Type}{f:a->Bool}{l:List a}{k:Nat}{x:a}(h:l[k]?=some x):(l.take (k+1)).any f=((l.take k).any f||f x):=by
 rw[bW,h,List.any_append];simp
def rH(c:Co)(k:Nat):List Int:=(c.Z.take k).map (λe=>(aj e.i.op:Int))++List.replicate (c.Z.length-k) 0
def xI(c:Co)(k:Nat):List Bool:=(List.range k).map (dg c)++List.replicate (c.Z.length-k) false
def GK{c:Co}{k:Nat}(h:k<=c.Z.length):(rH c k).length=c.Z.length:=by unfold rH;simp;omega
def EU{c:Co}{k:Nat}(h:k<=c.Z.length):(xI c k).length=c.Z.length:=by unfold xI;simp;omega
def MR{b:Type}{a:List b}{z x:b}{n k:Nat}(c:a.length=k)(d:0<n):(a++List.replicate n z).set k x=(a++[x])++List.replicate (n-1) z:=by
 subst c;obtain⟨m,rfl⟩:∃m,n=m+1:=⟨n-1,oT⟩;rw[iN _ _ (aC _),eK,List.replicate_succ,gM];simp
def GL{c:Co}{k:Nat}{x:ai}(a:c.Z[k]?=some x):(rH c k).set k (aj x.i.op:Int)=rH c (k+1):=by
 have b:=(Em.1 a).1;unfold rH;rw[MR (by simp;omega) ad,bW,a,Nat.sub_sub];simp
def Kg{c:Co}{k:Nat}(a:k<c.Z.length):(xI c k).set k (dg c k)=xI c (k+1):=by
 unfold xI;rw[MR (by simp) ad,gZ,Nat.sub_sub];simp
def OH(c:Co):rH c c.Z.length=Fi c:=by unfold rH Fi;simp
def Qx(c:Co):xI c c.Z.length=Kv c:=by unfold xI Kv;simp
def LK{c:Co}{n:Nat}(h:c.Z.length=n):List.replicate n (0:Int)=rH c 0:=by subst h;rfl
def OI{c:Co}{n:Nat}(h:c.Z.length=n):List.replicate n false=xI c 0:=by subst h;rfl
def GM{a β:Type}{f:β->a->β}{l:List a}{j:Nat}{x:a}{d:β}(h:l[j]?=some x):(l.drop (j+1)).foldl f (f d x)=(l.drop j).foldl f d:=by
 obtain⟨b,rfl⟩:=Em.1 h;rw[bF b];rfl
def Ao{c:Co}{k:Nat}(e:wA c.Q=true)(a: ¬c.halt≠0)(d:k=c.Z.length):∃p,kj c.Q.o ((c.Z.take k).any IE) (rH c k) (xI c k)=p/\gY c=p.foldl iS c/\(∀i∈p,i<c.Z.length)/\p.length<=2:=by
 subst d;have f:=pD e;refine⟨_,R,?_,λi b=>?_,?_⟩
 .rw[OH,Qx,cH];exact dZ a
 .have:=Qw _ i b
  rwa [EU (aC _)]at this
 have:=VH (agN:=c.Q.o) (busy:=(c.Z.take c.Z.length).any IE) (kinds:=rH c c.Z.length) (can:=xI c c.Z.length) ad (xI c c.Z.length).length;unfold kj;omega
def WU(c:Co)(w:Nat)(y:c.E w)(hb:w+3<=890000)(A B:List ai)(lo n:Nat)(b f g l:Bool)(m o:List (List AV))(E:A.length=lo)(v:c.Z.length=n)(V:A.length+n+B.length<=1000):pM C0.P C0.G 78 [.ptr 0 0] (aq [(0,.box (az c (.X 1 lo n b) (.Y 2 m f) (.Y 2 (c.V.map ay) g) (.Y 9 o l))),(1,.arr ((A++c.Z++B).map ab) 17)]) 2 (λx h'=>x=.F []/\h'=aq [(0,.box (az (gY c) (.X 1 lo n b) (.Y 2 m f) (.Y 2 ((gY c).V.map ay) g) (.Y 9 o l))),(1,.arr ((A++(gY c).Z++B).map ab) 17)]):=by
 refine hI 2 func78 ?_;refine uR<|bk<|oR 5 R<|rV (vB (c.halt != 0)) R<|rE 8<|aV R (λM=>?_) (λM=>?_)
 .have G:=wM M;refine FQ ?_;have e:gY c=c:=aa G;rw[e];exact du
 have G:=wN M;refine mF<|bk<|oR 1 R<|rE 9<|bk<|oR 5 R<|rV (vN n) R<|eo (x:=.X 15 0 n false) (h':=an _ 15 (some (.arr ((List.replicate n 0).map bm) 1))) R R (Ri (fH (f:=bm) (a:=0)).symm) (⟨aG _,FG.2 ad,by show(n:Int)<=1000000;omega⟩)<|oR 1 R<|rE 17<|bk<|oR 5 R<|rV (vN n) R<|eo (x:=.X 23 0 n false) (h':=an _ 23 (some (.arr ((List.replicate n false).map h8) 1))) R R (Ri (fH (f:=h8) (a:=false)).symm) (⟨aG _,FG.2 ad,by show(n:Int)<=1000000;omega⟩)<|oR 1 R<|rE 25<|FP<|bk<|oR 5 R<|rV (vN n) R<|oR 1 R<|rE 32<|kO<|sX (κ:=Nat) (λk=>⟨a6 [(0,.ptr 0 0),(14,vB (c.halt != 0)),(3,.X 15 0 n false),(4,.X 23 0 n false),(33,.X 1 lo n b),(34,vN n),(2,vB ((c.Z.take k).any IE)),(35,vN k)],aq [(0,.box (az c (.X 1 lo n b) (.Y 2 m f) (.Y 2 (c.V.map ay) g) (.Y 9 o l))),(1,.arr ((A++c.Z++B).map ab) 17),(15,.arr ((rH c k).map bm) 1),(23,.arr ((xI c k).map h8) 1)],32⟩) (λk=>k<=n) (λk=>n-k) 0 (λs=>s) (au (λs=>s) wT ⟨⟨R,R,R⟩,⟨R,R,R⟩,⟨R,(am (λz:List Int=>some (a'.arr (z.map bm) 1)) (LK v)),R⟩,⟨R,(am (λz:List Bool=>some (a'.arr (z.map h8) 1)) (OI v)),R⟩,tr⟩ R) R (aE _) ?_;intro k hk;have ao:k<=n:=hk;have K:k<=1000:=oH y.Z;have ag:(rH c k).length=n:=(GK ad).trans v;have al:(xI c k).length=n:=(EU ad).trans v;refine bk<|rW (vB (decide (k<n))) R (ak (bl _ _))<|rE 33<|uR<|aV R (λN=>?_) (λN=>?_)
 .have S:=ax N;refine mF<|uR<|kO<|bk<|oR 1 R<|nW (.x 1 (lo+k) 0) R R fd ?_;obtain⟨x,a⟩:∃r,c.Z[k]?=some r:=⟨_,aA ad⟩;have F:=y.ok.Z6 x (aB a);refine ja (ab x) (.agg (ab x)) R R (iH (jK E a)) R<|dm 36 R R<|oR 1 R<|a1 R<|rE 39<|bk<|oR 4 R<|aW R (pS x.i)<|nW (.x 15 (0+k) 0) R R fd ?_;obtain⟨x1,X⟩:∃r,(rH c k)[k]?=some r:=⟨_,aA ad⟩;have Y:((rH c k).set k (aj x.i.op:Int))[k]?=some (aj x.i.op:Int):=aZ ad;refine nM (bm x1) (h':=an _ 15 (some (.arr (((rH c k).set k (aj x.i.op:Int)).map bm) 1))) R R R (⟨aG _,Jv (iH X)⟩) (vX (f:=bm) (l:=rH c k) (k:=k) (x:=(aj x.i.op:Int)))<|rE 46<|bk<|oR 4 R<|fU _ R R R (pM.Zv (C:=C0) (show bI C0 138 [.k 64 0 (az c (.Y 17 (List.take n (List.drop lo ((A++c.Z++B).map ab))) b) (.Y 2 m f) (.Y 2 (c.V.map ay) g) (.Y 9 o l)),vN k] _ from by rw[tV (l:=c.Z) E (by first|exact v|(rw[cC];exact v)|(simp only[cC];exact v))];exact yv c w y (.Y 2 m f) (.Y 2 (c.V.map ay) g) (.Y 9 o l) b k ad) (by rfl) (by exact⟨⟨rfl,(r4 (r4 (r4 (r4 (r4 (r4 (r4 (r4 (r4 (r4 (r4 (r4 ⟨(by show lo+n<=((A++c.Z++B).map ab).length;simp only[aH,aU,cC];omega),ga⟩))))))))))))⟩,trivial,trivial⟩) (by rfl)) ?_;rintro _ _ ⟨rfl,rfl⟩;refine nW (.x 23 (0+k) 0) R R fd ?_;obtain⟨x3,Z⟩:∃r,(xI c k)[k]?=some r:=⟨_,aA ad⟩;have av:((xI c k).set k (dg c k))[k]?=some (dg c k):=aZ ad;refine nM (h8 x3) (h':=an _ 23 (some (.arr (((xI c k).set k (dg c k)).map h8) 1))) R R R (⟨aG _,Jv (iH Z)⟩) (vX (f:=h8) (l:=xI c k) (k:=k) (x:=dg c k))<|rE 53<|bk<|oR 2 R<|nW (.x 15 (0+k) 0) R R fd<|ja (bm (aj x.i.op:Int)) (vN (aj x.i.op)) R R (Jv (iH Y)) R<|rW (vB ((aj x.i.op)==2)) R (ak (ba _ _))<|oR 1 R<|gN R<|gS R id<|aw R id R<|bO R R R (λh=>h)<|rE 63<|aV R (λO=>?_) (λO=>?_)
  .refine a7<|oR 1 R<|rE 64<|a7 ?_;have b1:k+1<=1001:=aD K (aC 1);refine rW (vN (k+1)) R (ap (bH b1 R))<|oR 1 R<|rE 66<|.mk _ (.refl _) ⟨k+1,λs=>s,au _ ⟨⟨R,R⟩,⟨R,R⟩,⟨R,R⟩,⟨R,R⟩,⟨R,R⟩,⟨R,R⟩,⟨(dR (by rw[MQ a];have z:=O;simp_all[iz,IE])),R⟩,⟨R,R⟩,tr⟩ ⟨⟨R,R,R⟩,⟨R,R,R⟩,⟨R,(am (λz:List Int=>some (a'.arr (z.map bm) 1)) (GL a)),R⟩,⟨R,(am (λz:List Bool=>some (a'.arr (z.map h8) 1)) (Kg ad)),R⟩,tr⟩ R,R,oT,by show n-(k+1)<n-k;omega⟩
  refine mF<|a7 ?_;have b2:k+1<=1001:=aD K (aC 1);refine rW (vN (k+1)) R (ap (bH b2 R))<|oR 1 R<|rE 65<|.mk _ (.refl _) ⟨k+1,λs=>s,au _ ⟨⟨R,R⟩,⟨R,R⟩,⟨R,R⟩,⟨R,R⟩,⟨R,R⟩,⟨R,R⟩,⟨(dR (by rw[MQ a];have z:=O;simp_all[iz,IE])),R⟩,⟨R,R⟩,tr⟩ ⟨⟨R,R,R⟩,⟨R,R,R⟩,⟨R,(am (λz:List Int=>some (a'.arr (z.map bm) 1)) (GL a)),R⟩,⟨R,(am (λz:List Bool=>some (a'.arr (z.map h8) 1)) (Kg ad)),R⟩,tr⟩ R,R,oT,by show n-(k+1)<n-k;omega⟩
 have S:=aF N;obtain⟨p,hp,hP,L,ar⟩:=Ao (k:=k) y.cf (λq=>q G) ad;refine Bh<| .mk _ (.step (some (15,1,(rH c k).map bm)) (ee (l:=[(0,.ptr 0 0),(14,vB (c.halt != 0)),(3,.Y 1 ((rH c k).map bm) false),(4,.X 23 0 n false),(2,vB ((c.Z.take k).any IE)),(36,vB (decide (k<n)))]) (hp:=[(0,.box (az c (.X 1 lo n b) (.Y 2 m f) (.Y 2 (c.V.map ay) g) (.Y 9 o l))),(1,.arr ((A++c.Z++B).map ab) 17),(23,.arr ((xI c k).map h8) 1)]) R jb kk) (.step (some (23,1,(xI c k).map h8)) (ee (l:=[(0,.ptr 0 0),(14,vB (c.halt != 0)),(3,.Y 1 ((rH c k).map bm) false),(4,.Y 1 ((xI c k).map h8) false),(2,vB ((c.Z.take k).any IE)),(36,vB (decide (k<n)))]) (hp:=[(0,.box (az c (.X 1 lo n b) (.Y 2 m f) (.Y 2 (c.V.map ay) g) (.Y 9 o l))),(1,.arr ((A++c.Z++B).map ab) 17)]) R jb kk) (.refl _)))<|bk<|oR 9 R<|g5 (x:=.Y 1 (p.map RP) false) R (.inl R) ((by rw[<-hp];exact sx c.Q.o ((c.Z.take k).any IE) (rH c k) (xI c k) false false (by rw[GK ad];exact y.Z) (by rw[EU ad];exact y.Z)))<|rW (vN p.length) R (cD RP p)<|oR 1 R<|rE 45<|kO<|sX (κ:=Nat×Co×Bool) (λD=>match D with|(j,d,false)=>⟨a6 [(0,.ptr 0 0),(14,vB (c.halt != 0)),(36,vB (decide (k<n))),(72,.Y 1 (p.map RP) false),(73,vN p.length),(74,vN j)],aq [(0,.box (az d (.X 1 lo n b) (.Y 2 m f) (.Y 2 (d.V.map ay) g) (.Y 9 o l))),(1,.arr ((A++d.Z++B).map ab) 17)],45⟩|(j,d,true)=>⟨a6 [(0,.ptr 0 0),(14,vB (c.halt != 0)),(36,vB (decide (k<n))),(72,.Y 1 (p.map RP) false),(73,vN p.length),(74,vN j)],aq [(0,.box (az d (.X 1 lo n b) (.Y 2 m f) (.Y 2 (d.V.map ay) g) (.Y 9 o l))),(1,.arr ((A++d.Z++B).map ab) 17)],45⟩) (λD=>match D with|(j,d,_)=>j<=p.length/\d.E (w+j)/\d.Z.length=n/\(p.drop j).foldl iS d=gY c) (λD=>p.length-D.1) (0,c,false) (λs=>s) (au (λs=>s) wT wH R) R (⟨aE _,y,v,hP.symm⟩) ?_;intro D u;obtain⟨j,d,b_⟩:=D;cases b_
 .have W:j<=p.length:=u.1;have J:j<=2:=oT;have I:d.E (w+j):=u.2.1;have t:d.Z.length=n:=u.2.2.1;have H:(p.drop j).foldl iS d=gY c:=u.2.2.2;refine bk<|rW (vB (decide (j<p.length))) R (ak (bl _ _))<|rE 46<|uR<|aV R (λP=>?_) (λP=>?_)
  .have T:=ax P;refine mF<|uR<|kO<|bk ?_;obtain⟨x,a⟩:∃r,p[j]?=some r:=⟨_,aA ad⟩;have F:=L x (aB a);have C:=yY I ad x;refine ja (RP x) (.k 1 0 (RP x)) R R (iH a) R<|oR 2 R<|rE 49<|a7<|oR 2 R<|fU _ R R R ((VJ d (w+j) I x (oH F) A B lo n b f g l m o E t V).Y4 (λz=>z)) ?_;rintro _ _ ⟨rfl,rfl⟩;refine rE 52<|a7 ?_;have b3:j+1<=3:=aD J (aC 1);refine rW (vN (j+1)) R (ap (bH b3 R))<|oR 1 R<|rE 54<|.mk _ (.refl _) ⟨(j+1,iS d x,false),λi=>i,au _ wT ⟨⟨R,(am (λz:List Pt=>some (a'.box (az (iS d x) (.X 1 lo n b) (.Y 2 m f) (.Y 2 (z.map ay) g) (.Y 9 o l)))) C.2.2.2.1.symm),R⟩,⟨R,R,R⟩,tr⟩ R,R,⟨oT,C.1,C.2.1.trans t,(GM a).trans H⟩,by show p.length-(j+1)<p.length-j;omega⟩
  have T:=aF P;refine Bh ?_;have e:gY c=d:=by rw[<-H,cB ad];rfl
  rw[e];exact du
 have W:j<=p.length:=u.1;have J:j<=2:=oT;have I:d.E (w+j):=u.2.1;have t:d.Z.length=n:=u.2.2.1;have H:(p.drop j).foldl iS d=gY c:=u.2.2.2;refine bk<|rW (vB (decide (j<p.length))) R (ak (bl _ _))<|rE 46<|uR<|aV R (λQ=>?_) (λQ=>?_)
 .have U:=ax Q;refine mF<|uR<|kO<|bk ?_;obtain⟨x,a⟩:∃r,p[j]?=some r:=⟨_,aA ad⟩;have F:=L x (aB a);have C:=yY I ad x;refine ja (RP x) (.k 1 0 (RP x)) R R (iH a) R<|oR 2 R<|rE 49<|a7<|oR 2 R<|fU _ R R R ((VJ d (w+j) I x (oH F) A B lo n b f g l m o E t V).Y4 (λz=>z)) ?_;rintro _ _ ⟨rfl,rfl⟩;refine rE 52<|a7 ?_;have b4:j+1<=3:=aD J (aC 1);refine rW (vN (j+1)) R (ap (bH b4 R))<|oR 1 R<|rE 54<|.mk _ (.refl _) ⟨(j+1,iS d x,false),λi=>i,au _ wT ⟨⟨R,(am (λz:List Pt=>some (a'.box (az (iS d x) (.X 1 lo n b) (.Y 2 m f) (.Y 2 (z.map ay) g) (.Y 9 o l)))) C.2.2.2.1.symm),R⟩,⟨R,R,R⟩,tr⟩ R,R,⟨oT,C.1,C.2.1.trans t,(GM a).trans H⟩,by show p.length-(j+1)<p.length-j;omega⟩
 have U:=aF Q;refine Bh ?_;have e:gY c=d:=by rw[<-H,cB ad];rfl
 rw[e];exact du
def TX(c:Co)(n:Nat)(t:c.E n)(h:c.Z=[])(a b d:Bool)(f g:List (List AV)):pM C0.P C0.G 78 [.ptr 0 0] (aq [(0,.box (az c (.Y 17 [] false) (.Y 2 f a) (.Y 2 (c.V.map ay) b) (.Y 9 g d)))]) 1 (λx h'=>x=.F []/\h'=aq [(0,.box (az (gY c) (.Y 17 [] false) (.Y 2 f a) (.Y 2 ((gY c).V.map ay) b) (.Y 9 g d)))]):=by
 refine hZ 1 func78 R<|de (c.halt != 0) (λi=>?_) (λi=>?_)
 .have e:gY c=c:=by unfold gY Fi Kv;rw[h];split<;>rfl
  rw[e];exact du
 refine rW _ R (vW ab ([]:List ai) ad)<|zF (x:=.X 14 0 0 false) (h':=an _ 14 (some (.arr (([]:List Int).map bm) 1))) (rfl) (⟨dT,dT,by show((0:Nat):Int)<=1000000;omega⟩)<|rW _ R (vW ab ([]:List ai) ad)<|eo (x:=.X 22 0 0 false) (h':=an _ 22 (some (.arr (([]:List Bool).map h8) 1))) R R (rfl) (⟨dT,dT,by show((0:Nat):Int)<=1000000;omega⟩)<|lv 0 0 R<|FP<|qS 0 R<|zW _ (vW ab ([]:List ai) ad)<|sX (κ:=Nat) (λk=>⟨a6 [(0,.ptr 0 0),(14,vB (c.halt != 0)),(3,.X 14 0 0 false),(4,.X 22 0 0 false),(33,.Y 17 (([]:List ai).map ab) false),(34,vN 0),(2,vB false),(35,vN k)],aq [(0,.box (az c (.Y 17 (([]:List ai).map ab) false) (.Y 2 f a) (.Y 2 (c.V.map ay) b) (.Y 9 g d))),(14,.arr (([]:List Int).map bm) 1),(22,.arr (([]:List Bool).map h8) 1)],31⟩) (λk=>k<=0) (λk=>0-k) 0 (λs=>s) (au (λs=>s) wT wH R) R (aE _) ?_;intro k r;have p:k<=1000:=oT;refine qS 0 R<|b0 (ak (bl _ _)) (λl=>by exact absurd (ax l) (dG _)) (λ_=>?_);refine ck 0 R<| .mk _ (.step (some (14,1,([]:List Int).map bm)) (ee (l:=[(0,.ptr 0 0),(14,vB (c.halt != 0)),(3,.Y 1 (([]:List Int).map bm) false),(4,.X 22 0 0 false),(2,vB false),(36,vB (decide (k<0)))]) (hp:=[(0,.box (az c (.Y 17 (([]:List ai).map ab) false) (.Y 2 f a) (.Y 2 (c.V.map ay) b) (.Y 9 g d))),(22,.arr (([]:List Bool).map h8) 1)]) R jb kk) (.step (some (22,1,([]:List Bool).map h8)) (ee (l:=[(0,.ptr 0 0),(14,vB (c.halt != 0)),(3,.Y 1 (([]:List Int).map bm) false),(4,.Y 1 (([]:List Bool).map h8) false),(2,vB false),(36,vB (decide (k<0)))]) (hp:=[(0,.box (az c (.Y 17 (([]:List ai).map ab) false) (.Y 2 f a) (.Y 2 (c.V.map ay) b) (.Y 9 g d)))]) R jb kk) (.refl _)))<|qC 0 R<|aW R (sx c.Q.o false [] [] false false dT dT)<|zW _ (vW RP ([]:List Nat) ad)<|sX (κ:=Nat) (λj=>⟨a6 [(0,.ptr 0 0),(14,vB (c.halt != 0)),(36,vB (decide (k<0))),(72,.Y 1 (([]:List Nat).map RP) false),(73,vN 0),(74,vN j)],aq [(0,.box (az c (.Y 17 (([]:List ai).map ab) false) (.Y 2 f a) (.Y 2 (c.V.map ay) b) (.Y 9 g d)))],44⟩) (λj=>j<=0) (λj=>0-j) 0 (λs=>s) (au (λs=>s) wT wH R) R (aE _) ?_;intro j q;have o:j<=1000:=oT;refine qS 0 R<|b0 (ak (bl _ _)) (λm=>by exact absurd (ax m) (dG _)) (λ_=>?_);have e:gY c=c:=by unfold gY Fi Kv;rw[h];split<;>rfl
 rw[e];exact ck 0 R<|du
def VF(s:Nat)(c:Co)(F S T:AV)(h':AH):Prop:=
 (c.Z=[]/\h'=aq [(0,.box (az c (.Y 17 [] false) F S T))])\/
 ∃(b:Nat) (A B:List ai) (k:Bool),(b=1/\1<s\/b=s)/\A.length+c.Z.length+B.length<=1000/\h'=aq [(0,.box (az c (.X b A.length c.Z.length k) F S T)),(b,.arr ((A++c.Z++B).map ab) 17)]
def GI{c:Co}{R F S a T b:AV}(d:S=a)(e:T=b):some (a'.box (az c R F S T))=some (a'.box (az c R F a b)):=by rw[d,e]
def fE{e:ai}(h:e.ok):(cA e).ok:=by
 have a:(0:Nat)<=4294967295:=aE _;have b:(if wr e.i≠0 then e.value else 0)<=4294967295:=by
  split
  .exact h.value
  .exact a
 have c:(if e.halt=4\/e.halt=5 then e.W else 0)<=4294967295:=by
  split
  .exact h.W
  .exact a
 unfold cA
 repeat' split
 all_goals first
  |exact⟨h.M,h.M,a,c⟩
  |exact⟨h.M,uT _,h.value,h.W⟩
  |exact⟨h.M,uT _,b,h.W⟩
  |exact⟨h.M,uT _,b,a⟩
  |exact⟨h.M,h.next,b,a⟩
  |(refine⟨h.M,?_,?_,?_⟩<;>first|exact uT _|exact h.next|exact h.M|exact a|exact h.value|exact h.W)
def Dt{s:Sp}(h:(iJ s).isSome=true):s.store=true/\s.halt=0/\(iJ s).getD ⟨0,oZ⟩=⟨s.W,oF s.value s.size.toNat⟩:=by
 unfold iJ at h⊢;split at h
 .cases h
 .rename_i a;rw[dZ a];refine⟨?_,?_,R⟩
  .cases b:s.store with
   |true=>rfl
   |false=>exact absurd (.inl b) a
  .exact dw λe=>a (.inr (.inl e))
def OD{s:Sp}(h:s.ok):((iJ s).getD ⟨0,oZ⟩).ok:=by
 unfold iJ;split
 .exact⟨aE _⟩
 exact⟨h.W⟩
def Qv{r:Nat->Nat}{s:Sp}(a:∀k,r k<=4294967295)(b:s.ok)(k:Nat):lY r s k<=4294967295:=by
 unfold lY;split
 .unfold hL;split
  .exact b.value
  exact a k
 exact a k
def OE{g:Gu}{pc next:Nat}{i:SI}(h:g.ok)(c:sM g=true)(e:pc<=4294967295)(k:next<=4294967295):(fM g pc next i).ok/\sM (fM g pc next i)=true:=by
 obtain⟨b,o,j⟩:=XM.1 c;have a:∀x∈g.I++[b_ pc],x<=4294967295:=sJ (P:=λx=>x<=4294967295) h.ro (sK (P:=λx=>x<=4294967295) (uT pc));unfold fM;split
 .have l:∀x∈g.m.set (gO g pc) ⟨pc,next⟩,x.ok:=ea (P:=Gs.ok) h.so ⟨e,k⟩;have d:(2*g.Z7+(if next≠b_ pc then 1 else 0))%8<8:=aQ _ dT;refine⟨⟨?_,?_,?_,l,?_⟩,XM.2 ⟨?_,d,?_⟩⟩
  .show(g.m.set _ _).length<=_;rw[cC,b];decide
  .dsimp only;repeat' split
   .rw[bD,aU,kG];omega
   .rw[aU,kG];omega
   .rw[oA];omega
   omega
  .exact aL (Nat.le_of_lt d) dT
  .dsimp only;repeat' split
   .exact Iz (P:=λx=>x<=4294967295) a
   .exact a
   .intro x m;exact h.ro x (oC _ m)
   exact h.ro
  .show(g.m.set _ _).length=8;rw[cC,b]
  dsimp only;repeat' split
  .rename_i n f;rw[bD];rw[aU,kG]at f⊢;omega
  .rename_i n f;omega
  .rw[oA];omega
  exact j
 exact⟨h,c⟩
def mN{c:Co}{s:Sp}(h:(iJ s).isSome=true):(fZ c s).V=c.V++[(iJ s).getD ⟨0,oZ⟩]:=by
 unfold fZ;obtain⟨p,hp⟩:=FH.1 h;rw[hp];rfl
def qO{c:Co}{s:Sp}(h:(iJ s).isSome=false):(fZ c s).V=c.V:=by
 unfold fZ;have hp:iJ s=none:=sU h;rw[hp]
def Kc{s:Sp}:((iJ s).getD ⟨0,oZ⟩).data.size<=4:=by
 unfold iJ;split
 .exact aE _
 show(oF s.value s.size.toNat).size<=4;rw[mP];omega
def sF{c:Co}{n:Nat}{s:Sp}(h:c.E n)(g:n+1<=890000)(e:s.ok)(f:s.store=true->c.V.length<=999):(fZ c s).E (n+1):=by
 have a:(fZ c s).V.length<=1000/\(∀x∈(fZ c s).V,x.ok)/\∀x∈(fZ c s).V,x.data.size<=4:=by
  cases b:(iJ s).isSome with
  |true=>
   rw[mN b];have:=f (Dt b).1
   exact⟨by simp;omega,sJ h.ok.Z0 (sK (P:=Pt.ok) (OD e)),λx d=>(dz.1 d).elim (h.ZO x) λd=>uJ.1 d ▸ Kc⟩
  |false=>rw[qO b];exact⟨h.Z',h.ok.Z0,h.ZO⟩
 have i:(c.N++[s]).length<=n+1:=by have:=h.ok.ret;simp;omega
 exact⟨⟨h.ok.Q,h.ok.prog,h.ok.Z4,h.ok.r,h.ok.J,h.ok.Z5,h.ok.ZV,h.ok.Z,h.ok.Z6,aL a.1 dT,a.2.1,h.ok.data,h.ok.u,qJ h.ok.U,h.ok.Z_,h.ok.asked,h.ok.Z1,h.ok.mem,h.ok.K,i,sJ h.ok.ZW (sK (P:=Sp.ok) e)⟩,g,h.cf,h.data,h.u,h.K,h.Z,h.Z5,a.1,h.prog,h.mem,a.2.2⟩
def ET(c:Co)(agY:Nat):Co:={c with data:=(oK c agY).data,U:=(oK c agY).U,asked:=(oK c agY).asked}
def uY(c:Co)(agY:Nat):ET c agY=oK c agY:=by
 unfold ET oK;generalize iQ c.data c.U c.mem agY (lX c.Q c.asked)=t;obtain⟨d,q,a⟩:=t;rfl
def Bm(d:Co)(e:ai):Co:={fZ d (cA e)with r:=lY d.r (cA e),K:=fM d.K (cA e).M (cA e).next e.i,Z:=d.Z.drop 1}
def MP(d:Co)(e:ai):Co:={ET (fZ d (cA e)) (cA e).W with r:=lY d.r (cA e),K:=fM d.K (cA e).M (cA e).next e.i,Z:=d.Z.drop 1}
def mG{d:Co}{n:Nat}(h:d.halt≠0\/d.Z.length=0):bx n d=d:=by
 cases n with
 |zero=>rfl
 | succ n=>
  unfold bx;by_cases a:d.halt≠0
  .exact aa a
  .rw[dZ a];have b:d.Z=[]:=gq (h.resolve_left a);rw[b]
def iX{d:Co}{n:Nat}{e:ai}(c:0<n)(h: ¬d.halt≠0)(a:d.Z[0]?=some e):bx n d=if e.is≠3 then d else if(cA e).halt≠0 then tM d (cA e)else if(cA e).store=true/\(d.V.length:Int)>=d.Q.V then d else bx (n-1) (ez d e (cA e) (d.Z.drop 1)):=by
 cases n with
 |zero=>cases c
 |succ n=>
  conv=>lhs;unfold bx
  rw[dZ h]
  cases b:d.Z with
  |nil=>rw[b]at a;cases a
  |cons y l=>rw[b]at a;injection a with a;subst a;rfl
def An{d:Co}{e:ai}(h: ¬aj e.i.op=3):ez d e (cA e) (d.Z.drop 1)=Bm d e:=by
 unfold ez vG Bm;rw[dZ h]
def Ke{d:Co}{e:ai}(h:aj e.i.op=3):ez d e (cA e) (d.Z.drop 1)=MP d e:=by
 unfold ez vG MP;rw[aa h,uY]
def Kf{d x:Co}{n:Nat}{e:ai}(a:x.E n)(b:d.E n)(h:e.ok)(i:x.Z=d.Z):Co.E {x with r:=lY d.r (cA e),K:=fM d.K (cA e).M (cA e).next e.i,Z:=d.Z.drop 1} n:=by
 have c:=fE h;have f:=OE (i:=e.i) b.ok.K b.K c.M c.next;have g:(d.Z.drop 1).length<=1000:=by have:=b.Z;rw[bD];omega
 exact⟨⟨a.ok.Q,a.ok.prog,a.ok.Z4,Qv b.ok.r c,a.ok.J,a.ok.Z5,a.ok.ZV,aL g dT,Iz b.ok.Z6,a.ok.Z',a.ok.Z0,a.ok.data,a.ok.u,a.ok.U,a.ok.Z_,a.ok.asked,a.ok.Z1,a.ok.mem,f.1,a.ok.ret,a.ok.ZW⟩,a.nb,a.cf,a.data,a.u,f.2,g,a.Z5,a.Z',a.prog,a.mem,a.ZO⟩
def xZ{d:Co}{n:Nat}{e:ai}(b:d.E n)(a:n+2<=890000)(c:e.ok)(f:(cA e).store=true->d.V.length<=999):(Bm d e).E (n+2):=
 Kf ((sF b ad (fE c) f).mono ad a) (b.mono ad a) c R
def GJ{d:Co}{n:Nat}{e:ai}(b:d.E n)(f:n+2<=890000)(a:e.ok)(c:(cA e).store=true->d.V.length<=999):(MP d e).E (n+2):=by
 have h:=EX (sF b ad (fE a) c) ad (fE a).W;rw[<-uY]at h;exact Kf h (b.mono ad f) a R
def xY{a:Type}{A l B:List a}{x:a}(h:l[0]?=some x):A++l++B=(A++[x])++l.drop 1++B:=by
 cases l with
 |nil=>cases h
 |cons y l=>injection h with h;subst h;simp
def Ij{a:Type}[Inhabited a](l:List a):∃e:a,0<l.length->l[0]?=some e:=by
 cases l with
 |nil=>exact⟨default,λh=>absurd h (iI 0)⟩
 |cons y l=>exact⟨y,λ_=>rfl⟩
def GG{p:Prop}{s lo a n b:Nat}{c:Bool}(e:lo=a)(d:n=b):b1.Z9 p (.X s lo n (c&&true))=.Z9 p (.X s a b c):=by rw[e,d,Bool.and_true]
instance:Inhabited ai:=⟨Cs⟩
def tJ{e:ai}(h:(iJ (cA e)).isSome=true): ¬aj e.i.op=3:=by
 intro q;have z:=(Dt h).1;unfold cA at z;rw[q]at z;split at z<;>simp at z
def mM(d:Co)(e:ai):Co:=vG (fZ d (cA e)) e (cA e)
def Ch{d:Co}{e:ai}(h:aj e.i.op=3):mM d e=oK (fZ d (cA e)) (cA e).W:=by unfold mM vG;rw[aa h]
def Ci{d:Co}{e:ai}(h: ¬aj e.i.op=3):mM d e=fZ d (cA e):=by unfold mM vG;rw[dZ h]
def Bl(d:Co)(e:ai):Co:={fZ d (cA e)with data:=(mM d e).data,U:=(mM d e).U,asked:=(mM d e).asked,r:=lY d.r (cA e),K:=fM d.K (cA e).M (cA e).next e.i,Z:=d.Z.drop 1}
def Kb(d:Co)(e:ai):Bl d e=if aj e.i.op=3 then MP d e else Bm d e:=by
 unfold Bl;by_cases h:aj e.i.op=3
 .rw[aa h,Ch h];rfl
 rw[dZ h,Ci h];rfl
def ES{d:Co}{e:ai}:ez d e (cA e) (d.Z.drop 1)=Bl d e:=by
 rw[Kb];by_cases h:aj e.i.op=3
 .rw[aa h,Ke h]
 rw[dZ h,An h]
def CT{d:Co}{n:Nat}{e:ai}(c:d.E n)(b:n+2<=890000)(f:e.ok)(a:(cA e).store=true->d.V.length<=999):(Bl d e).E (n+2):=by
 rw[Kb];split
 .exact GJ c b f a
 exact xZ c b f a
def Qt(c:Co)(n:Nat)(p:c.E n)(agY:Nat)(a:agY<=4294967295)(g i:Nat)(d:Bool)(k:List (List AV))(b:Bool)(m:List (List AV))(e:Bool)(o:List (List AV))(h j:Nat)(f:Bool)(l:List (List AV)):pM C0.P C0.G 125 [.ptr 0 0,vU agY] (aq [(0,.box (az c (.X 1 g i d) (.Y 2 m b) (.Y 2 o e) (.X 2 h j f))),(1,.arr k 17),(2,.arr l 9)]) 3 (λx h'=>x=.F []/\h'=aq [(0,.box (az (ET c agY) (.X 1 g i d) (.Y 2 m b) (.Y 2 o e) (.X 2 h j f))),(1,.arr k 17),(2,.arr l 9)]):=by rw[uY];exact yw c n p agY a g i d k b m e o h j f l
def TV(c:Co)(n:Nat)(q:c.E n)(agY:Nat)(a:agY<=4294967295)(g j:Nat)(d:Bool)(m:List (List AV))(b:Bool)(p:List (List AV))(h k:Nat)(e:Bool)(rS:List (List AV))(i l:Nat)(f:Bool)(o:List (List AV)):pM C0.P C0.G 125 [.ptr 0 0,vU agY] (aq [(0,.box (az c (.X 1 g j d) (.Y 2 p b) (.X 2 h k e) (.X 3 i l f))),(1,.arr m 17),(2,.arr rS 2),(3,.arr o 9)]) 4 (λx h'=>x=.F []/\h'=aq [(0,.box (az (ET c agY) (.X 1 g j d) (.Y 2 p b) (.X 2 h k e) (.X 3 i l f))),(1,.arr m 17),(2,.arr rS 2),(3,.arr o 9)]):=by rw[uY];exact Xc c n q agY a g j d m b p h k e rS i l f o
def TW(c:Co)(t:Nat)(hm:c.E t)(hb:t+6<=890000)(A B:List ai)(lo n:Nat)(a:Bool)(g:A.length=lo)(w:c.Z.length=n)(hA:A.length+n+B.length<=1000):pM C0.P C0.G 77 [.ptr 0 0] (aq [(0,.box (az c (.X 1 lo n a) (.Y 2 (c.L.map a_) true) (.Y 2 (c.V.map ay) true) (.Y 9 (c.N.map a2) true))),(1,.arr ((A++c.Z++B).map ab) 17)]) 2 (λx h'=>x=.F []/\VF 2 (ei c) (.Y 2 ((ei c).L.map a_) true) (.Y 2 ((ei c).V.map ay) false) (.Y 9 ((ei c).N.map a2) false) h'):=by
 refine hZ 2 func77 R ?_;obtain⟨W,G,aA⟩:∃W:Nat,c.Q.o=(W:Int)/\W<=2:=⟨c.Q.o.toNat,oH (pD hm.cf),oH (pD hm.cf)⟩;refine sX (κ:=Nat×Co×List ai×Nat×Nat×Option Bool) (λL=>match L with|(k,d,A,lo,n,none)=>⟨a6 [(0,.ptr 0 0),(11,vI c.Q.o),(12,vN k)],aq [(0,.box (az d (.X 1 lo n a) (.Y 2 (d.L.map a_) true) (.Y 2 (d.V.map ay) true) (.Y 9 (d.N.map a2) true))),(1,.arr ((A++d.Z++B).map ab) 17)],11⟩|(k,d,A,lo,n,some false)=>⟨a6 [(0,.ptr 0 0),(11,vI c.Q.o),(12,vN k)],aq [(0,.box (az d (.X 1 lo n a) (.Y 2 (d.L.map a_) true) (.Y 2 (d.V.map ay) true) (.X 9 0 d.N.length false))),(1,.arr ((A++d.Z++B).map ab) 17),(9,.arr (d.N.map a2) 9)],11⟩|(k,d,A,lo,n,some true)=>⟨a6 [(0,.ptr 0 0),(11,vI c.Q.o),(12,vN k)],aq [(0,.box (az d (.X 1 lo n a) (.Y 2 (d.L.map a_) true) (.X 10 0 d.V.length false) (.X 9 0 d.N.length false))),(1,.arr ((A++d.Z++B).map ab) 17),(9,.arr (d.N.map a2) 9),(10,.arr (d.V.map ay) 2)],11⟩) (λL=>match L with|(k,d,A,lo,n,_)=>k<=W/\d.E (t+2*k)/\A.length=lo/\d.Z.length=n/\A.length+n+B.length<=1000/\bx (W-k) d=bx W c) (λL=>W-L.1) (0,c,A,lo,n,none) (λs=>s) (au (λs=>s) wT wH R) R (⟨aE _,hm,g,w,hA,R⟩) ?_;intro L v;obtain⟨k,d,A,lo,n,o_⟩:=L;rcases o_ with _|_|_
 rotate_left 2
 .have al:k<=W:=v.1;have H:k<=2:=oT;have f:d.E (t+2*k):=v.2.1;have g:A.length=lo:=v.2.2.1;have w:d.Z.length=n:=v.2.2.2.1;have hA:A.length+n+B.length<=1000:=v.2.2.2.2.1;have u:bx (W-k) d=bx W c:=v.2.2.2.2.2;obtain⟨e,D⟩:=Ij d.Z;have ar:=f.ret;have av:=f.Z';refine qS 0 R<|de (decide ((k:Int)<c.Q.o)) (λN=>?_) (λN=>?_)
  .have Y:=ax N;refine zV (vB (d.halt != 0))<|gS R id<|gS R id<|gS R id<|gS R id<|aw R id R<|aw R id (ak (ba _ _))<|zN R (by simp)<|gS R id<|gS R id<|gS R id<|gS R id<|pB (x:=.x 1 (lo+0) 0) (g:= !(cE (d.halt != 0) true (n==0))) R R R R (λh=>h) R R (λJ=>by refine⟨dT,FF.2 ?_⟩;have z:=J;show 0<n;simp[ey]at z;omega)<|gS R id<|DK (ab e) (x:=vI e.is) (g:= !(cE (d.halt != 0) true (n==0))) R R R R (λh=>h) R R (λJ=>⟨aG _,iH (jK g (D (by have z:=J;simp[ey]at z;omega)))⟩) R<|aw R id R<|zN R (by simp)<|zB R (λO=>?_) (λO=>?_)
   .have j:((d.halt≠0\/n=0)\/e.is≠3):=by have z:=O;simpa [ey]using z
    refine ck 0 R ?_;have o:ei c=bx (W-k) d:=by rw[u];show bx c.Q.o.toNat c=_;rw[G];rfl
    have p:ei c=d:=o.trans (j.elim (λq=>mG (by rw[w];exact q)) (λq=>(Classical.em (d.halt≠0\/d.Z.length=0)).elim mG λU=>(iX ad (λq=>U (.inl q)) (D (eU λz=>U (.inr z)))).trans (aa q)));rw[p];subst g;subst w;exact Jg (.step (some (9,9,d.N.map a2)) (ee (l:=[(0,.F [])]) (hp:=[(0,.box (az (d) (.X 1 A.length d.Z.length a) (.Y 2 (d.L.map a_) true) (.X 10 0 d.V.length false) (.Y 9 (d.N.map a2) false))),(1,.arr ((A++d.Z++B).map ab) 17),(10,.arr (d.V.map ay) 2)]) R ⟨.refl _,tr⟩ ⟨⟨R,_,R,eg.ZU (qQ (.refl _) (.refl _) (.refl _) (nB (by exact ad)))⟩,⟨R,_,R,.refl _⟩,⟨R,_,R,.refl _⟩,tr⟩) (.refl _)) (some (10,2,d.V.map ay)) ⟨R,.inr ⟨1,A,B,a,.inl ⟨R,dT⟩,oT,R⟩⟩ (i9 R (qQ (.refl _) (.refl _) (nB (by exact ad)) (.refl _)) (mb R tr))
   have j: ¬((d.halt≠0\/n=0)\/e.is≠3):=by have z:=O;simpa [ey]using z
   have E: ¬d.halt≠0:=λq=>j (.inl (.inl q));have ao: ¬n=0:=λq=>j (.inl (.inr q));have K:0<d.Z.length:=oT;have l:=D K;have b:=f.ok.Z6 e (aB l);refine nW (.x 1 (lo+0) 0) R R (⟨dT,FF.2 (by show 0<n;exact ad)⟩)<|zX (ab e) (.agg (ab e)) R (iH (jK g l))<|zC (RT e b)<|de (((cA e).halt) != 0) (λP=>?_) (λP=>?_)
   .have y:=wM P;refine a7<|oR 7 R<|rV (.Y 9 ([a2 (cA e)]) true) R<|eo (x:=.X 62 0 (d.N.length+1) false) (h':=an (an _ 9 none) 62 (some (.arr ((d.N++([(cA e)])).map a2) 9))) R R (iP a2 d.N ([(cA e)]) ad ad) (⟨by exact ad,by exact ad,tr⟩)<|oR 3 R<|dv 0 (az d (.X 1 lo n a) (.Y 2 (d.L.map a_) true) (.X 10 0 d.V.length false) (.X 62 0 (d.N.length+1) false)) R R R<|rE 67<|nj 0 R<|dv 0 (az ({d with halt:=(cA e).halt}:Co) (.X 1 lo n a) (.Y 2 (d.L.map a_) true) (.X 10 0 d.V.length false) (.X 62 0 (d.N.length+1) false)) R R R<|d_ 0 R<|dv 0 (az ({d with halt:=(cA e).halt}:Co) (.Y 0 ([]) true) (.Y 2 (d.L.map a_) true) (.X 10 0 d.V.length false) (.X 62 0 (d.N.length+1) false)) R R R<|d_ 0 R<|dv 0 (az ({d with halt:=(cA e).halt}:Co) (.Y 0 ([]) true) (.Y 0 ([]) true) (.X 10 0 d.V.length false) (.X 62 0 (d.N.length+1) false)) R R R<|d_ 0 R<|dv 0 (az ({d with stop:=true,halt:=(cA e).halt}:Co) (.Y 0 ([]) true) (.Y 0 ([]) true) (.X 10 0 d.V.length false) (.X 62 0 (d.N.length+1) false)) R R R<|cg 0 R<|ck 0 R ?_;have o:ei c=bx (W-k) d:=by rw[u];show bx c.Q.o.toNat c=_;rw[G];rfl
    have p:ei c=tM d (cA e):=by rw[o,iX ad E l,dZ (λq=>j (.inr q)),aa y]
    rw[p];exact Jg (.step (some (62,9,(d.N++([(cA e)])).map a2)) (ee (l:=[(0,.F [])]) (hp:=[(0,.box (az (tM d (cA e)) (.Y 0 ([]) true) (.Y 0 ([]) true) (.X 10 0 d.V.length false) (.Y 9 ((d.N++([(cA e)])).map a2) false))),(1,.arr ((A++d.Z++B).map ab) 17),(10,.arr (d.V.map ay) 2)]) R ⟨.refl _,tr⟩ ⟨⟨R,_,R,eg.ZU (qQ (.refl _) (.refl _) (.refl _) (nB (by exact ad)))⟩,⟨R,_,R,.refl _⟩,⟨R,_,R,.refl _⟩,tr⟩) (.refl _)) (some (10,2,d.V.map ay)) ⟨R,.inl ⟨R,R⟩⟩ (i9 R (qQ (.nil 17 false) (.nil 2 true) (nB (by exact ad)) (.refl _)) tr)
   have y:=wN P;refine zR<|zG R id<|zG R id<|zG R id<|zG R id<|gn (x:=vN d.V.length) R id R<|zG R id<|zG R id<|zG R id<|zG R id<|zG R id<|gn (x:=vB (decide (((d.V.length:Nat):Int)>=d.Q.V))) R b9 R<|zN R (λh=>h)<|zB R (λQ=>?_) (λQ=>?_)
   .have m:((cA e).store=true/\(d.V.length:Int)>=d.Q.V):=by have z:=Q;simpa [iz]using z
    refine ck 0 R ?_;have o:ei c=bx (W-k) d:=by rw[u];show bx c.Q.o.toNat c=_;rw[G];rfl
    have p:ei c=d:=by rw[o,iX ad E l,dZ (λq=>j (.inr q)),dZ (λq=>q y),aa m]
    rw[p];subst g;subst w;exact Jg (.step (some (9,9,d.N.map a2)) (ee (l:=[(0,.F [])]) (hp:=[(0,.box (az (d) (.X 1 A.length d.Z.length a) (.Y 2 (d.L.map a_) true) (.X 10 0 d.V.length false) (.Y 9 (d.N.map a2) false))),(1,.arr ((A++d.Z++B).map ab) 17),(10,.arr (d.V.map ay) 2)]) R ⟨.refl _,tr⟩ ⟨⟨R,_,R,eg.ZU (qQ (.refl _) (.refl _) (.refl _) (nB (by exact ad)))⟩,⟨R,_,R,.refl _⟩,⟨R,_,R,.refl _⟩,tr⟩) (.refl _)) (some (10,2,d.V.map ay)) ⟨R,.inr ⟨1,A,B,a,.inl ⟨R,dT⟩,oT,R⟩⟩ (i9 R (qQ (.refl _) (.refl _) (nB (by exact ad)) (.refl _)) (mb R tr))
   have m: ¬((cA e).store=true/\(d.V.length:Int)>=d.Q.V):=by have z:=Q;simpa [iz]using z
   have r:(cA e).store=true->d.V.length<=999:=λq=>by have:=pD f.cf;have: ¬(d.V.length:Int)>=d.Q.V:=λz=>m ⟨q,z⟩;omega
   refine a7<|oR 7 R<|rV (.Y 9 ([a2 (cA e)]) true) R<|eo (x:=.X 79 0 (d.N.length+1) false) (h':=an (an _ 9 none) 79 (some (.arr ((d.N++([(cA e)])).map a2) 9))) R R (iP a2 d.N ([(cA e)]) ad ad) (⟨by exact ad,by exact ad,tr⟩)<|oR 3 R<|dv 0 (az d (.X 1 lo n a) (.Y 2 (d.L.map a_) true) (.X 10 0 d.V.length false) (.X 79 0 (d.N.length+1) false)) R R R<|rE 84<|qX 0 R<|zC (LO (cA e) (fE b))<|aV R (λC=>?_) (λC=>?_)
   .refine a7<|oR 7 R<|rV (.Y 2 ([[vU (((iJ (cA e)).getD ⟨0,oZ⟩).W),.v (.string (((iJ (cA e)).getD ⟨0,oZ⟩).data))]]) true) R<|eo (x:=.X 101 0 (d.V.length+1) false) (h':=an (an _ 10 none) 101 (some (.arr ((d.V++([((iJ (cA e)).getD ⟨0,oZ⟩)])).map ay) 2))) R R (iP ay d.V ([((iJ (cA e)).getD ⟨0,oZ⟩)]) ad ad) (⟨by exact ad,by exact ad,tr⟩)<|oR 3 R<|dv 0 (az d (.X 1 lo n a) (.Y 2 (d.L.map a_) true) (.X 101 0 (d.V.length+1) false) (.X 79 0 (d.N.length+1) false)) R R R<|rE 106<|qX 0 R<|aW R (pS e.i)<|b0 (ak (ba _ _)) (λaj=>by exact absurd (eq_of_beq aj) (tJ C)) (λ_=>?_);refine a7<|oR 7 R<|aW R (GQ d.r (cA e) f.ok.r (fE b))<|oR 3 R<|dv 0 (az ({d with r:=lY d.r (cA e)}:Co) (.X 1 lo n a) (.Y 2 (d.L.map a_) true) (.X 101 0 (d.V.length+1) false) (.X 79 0 (d.N.length+1) false)) R R R<|rE 122<|jk 0 R<|a7<|oR 12 R<|aW R (AZ d.K (cA e).M (cA e).next e.i f.ok.K (fE b).M (fE b).next b.C)<|oR 3 R<|dv 0 (az ({d with r:=lY d.r (cA e),K:=(fM d.K (cA e).M (cA e).next e.i)}:Co) (.X 1 lo n a) (.Y 2 (d.L.map a_) true) (.X 101 0 (d.V.length+1) false) (.X 79 0 (d.N.length+1) false)) R R R<|rE 139<|qX 0 R<|nW _ R (GG R (by simp only[Option.getD];omega)) g_<|d_ 0 R<|dv 0 (az ({d with r:=lY d.r (cA e),K:=(fM d.K (cA e).M (cA e).next e.i)}:Co) (.X 1 (lo+1) (n-1) a) (.Y 2 (d.L.map a_) true) (.X 101 0 (d.V.length+1) false) (.X 79 0 (d.N.length+1) false)) R R R ?_;have b5:k+1<=3:=aD H (aC 1);refine qR 0 R<|zW _ (ap (bH b5 R))<|.mk _ (.refl _) ⟨(k+1,(Bm d e),A++[e],lo+1,n-1,some true),λi=>match i with|9=>79|10=>101|i=>i,au _ wT ⟨⟨R,(GI (c:=(Bm d e)) (am (λz=>AV.X 101 0 z false) (show d.V.length+1=(fZ d (cA e)).V.length from by rw[(mN C)];simp)) (am (λz=>AV.X 79 0 z false) (show d.N.length+1=(d.N++[cA e]).length from by simp))),R⟩,⟨R,(am (λz:List ai=>some (a'.arr (z.map ab) 17)) (xY l)),R⟩,⟨R,R,R⟩,⟨R,(am (λz:List Pt=>some (a'.arr (z.map ay) 2)) (mN C).symm),R⟩,tr⟩ R,R,⟨oT,(by have q:=xZ f ad b r;rwa [(oT:t+2*k+2=t+2*(k+1))]at q),by simp;omega,(by show(d.Z.drop 1).length=n-1;rw[bD];omega),by simp;omega,Eq.trans (by rw[iX (n:=W-k) ad E l,dZ (λq=>j (.inr q)),dZ (λq=>q y),dZ m,An (tJ C)];congr 1) u⟩,by show W-(k+1)<W-k;omega⟩
   skip;refine o' 0 0 R<|Fq (κ:=Unit) (λV=>⟨a6 [(0,.ptr 0 0),(11,vI c.Q.o),(12,vN k),(2,.ptr 45 0),(3,.ptr 49 0)],aq [(0,.box (az ({d with data:=(mM d e).data,U:=(mM d e).U,asked:=(mM d e).asked}:Co) (.X 1 lo n a) (.Y 2 (d.L.map a_) true) (.X 10 0 d.V.length false) (.X 79 0 (d.N.length+1) false))),(1,.arr ((A++d.Z++B).map ab) 17),(10,.arr (d.V.map ay) 2),(45,.box (ab e)),(49,.box (a2 (cA e))),(79,.arr ((d.N++([(cA e)])).map a2) 9)],93⟩) (λV=>True) ?_ ?_
   .refine qS 0 R<|aW R (pS e.i)<|b0 (ak (ba _ _)) (λS=>?_) (λS=>?_)
    .have I:=mT S;refine zH R ((TV (fZ d (cA e)) (t+2*k+1) (sF f ad (fE b) r) (cA e).W (fE b).W lo n a ((A++d.Z++B).map ab) true (d.L.map a_) 0 (d.V.length) false (d.V.map ay) 0 (d.N.length+1) false ((d.N++([(cA e)])).map a2)).fB (λz=>match z with|2=>10|3=>79|z=>z)) ?_;rintro _ _ ⟨rfl,rfl⟩;refine .mk _ (.refl _) ⟨(),λs=>s,au _ wT ⟨⟨R,(by rw[Ch I];rfl),R⟩,⟨R,R,R⟩,⟨R,R,R⟩,⟨R,R,R⟩,⟨R,R,R⟩,⟨R,R,R⟩,tr⟩ R,R,tr⟩
    have I:=nA S;refine .mk _ (.refl _) ⟨(),λs=>s,au _ wT ⟨⟨R,(by rw[Ci I];rfl),R⟩,⟨R,R,R⟩,⟨R,R,R⟩,⟨R,R,R⟩,⟨R,R,R⟩,⟨R,R,R⟩,tr⟩ R,R,tr⟩
   intro V _;refine j4 0 R<|a7<|oR 7 R<|aW R (GQ d.r (cA e) f.ok.r (fE b))<|oR 3 R<|dv 0 (az ({d with r:=lY d.r (cA e),data:=(mM d e).data,U:=(mM d e).U,asked:=(mM d e).asked}:Co) (.X 1 lo n a) (.Y 2 (d.L.map a_) true) (.X 10 0 d.V.length false) (.X 79 0 (d.N.length+1) false)) R R R<|rE 105<|jk 0 R<|a7<|oR 12 R<|aW R (AZ d.K (cA e).M (cA e).next e.i f.ok.K (fE b).M (fE b).next b.C)<|oR 3 R<|dv 0 (az ({d with r:=lY d.r (cA e),data:=(mM d e).data,U:=(mM d e).U,asked:=(mM d e).asked,K:=(fM d.K (cA e).M (cA e).next e.i)}:Co) (.X 1 lo n a) (.Y 2 (d.L.map a_) true) (.X 10 0 d.V.length false) (.X 79 0 (d.N.length+1) false)) R R R<|rE 122<|qX 0 R<|nW _ R (GG R (by simp only[Option.getD];omega)) g_<|d_ 0 R<|dv 0 (az ({d with r:=lY d.r (cA e),data:=(mM d e).data,U:=(mM d e).U,asked:=(mM d e).asked,K:=(fM d.K (cA e).M (cA e).next e.i)}:Co) (.X 1 (lo+1) (n-1) a) (.Y 2 (d.L.map a_) true) (.X 10 0 d.V.length false) (.X 79 0 (d.N.length+1) false)) R R R ?_;have b6:k+1<=3:=aD H (aC 1);refine qR 0 R<|zW _ (ap (bH b6 R))<|.mk _ (.refl _) ⟨(k+1,(Bl d e),A++[e],lo+1,n-1,some true),λi=>match i with|9=>79|10=>10|i=>i,au _ wT ⟨⟨R,(GI (c:=(Bl d e)) (am (λz=>AV.X 10 0 z false) (show d.V.length=(fZ d (cA e)).V.length from by rw[(qO C)])) (am (λz=>AV.X 79 0 z false) (show d.N.length+1=(d.N++[cA e]).length from by simp))),R⟩,⟨R,(am (λz:List ai=>some (a'.arr (z.map ab) 17)) (xY l)),R⟩,⟨R,R,R⟩,⟨R,(am (λz:List Pt=>some (a'.arr (z.map ay) 2)) (qO C).symm),R⟩,tr⟩ R,R,⟨oT,(by have q:=CT f ad b r;rwa [(oT:t+2*k+2=t+2*(k+1))]at q),by simp;omega,(by show(d.Z.drop 1).length=n-1;rw[bD];omega),by simp;omega,Eq.trans (by rw[iX (n:=W-k) ad E l,dZ (λq=>j (.inr q)),dZ (λq=>q y),dZ m,ES];congr 1) u⟩,by show W-(k+1)<W-k;omega⟩
  have Y:=aF N;have o:ei c=bx (W-k) d:=by rw[u];show bx c.Q.o.toNat c=_;rw[G];rfl
  have p:ei c=d:=by rw[o,(oT:W-k=0)];rfl
  rw[p];exact ck 0 R<|SY (rs:=[]) R (.step (some (9,9,d.N.map a2)) (ee (l:=[(0,.F [])]) (hp:=[(0,.box (az (d) (.X 1 lo n a) (.Y 2 (d.L.map a_) true) (.X 10 0 d.V.length false) (.Y 9 (d.N.map a2) false))),(1,.arr ((A++d.Z++B).map ab) 17),(10,.arr (d.V.map ay) 2)]) R ⟨.refl _,tr⟩ ⟨⟨R,_,R,eg.ZU (qQ (.refl _) (.refl _) (.refl _) (nB (by exact ad)))⟩,⟨R,_,R,.refl _⟩,⟨R,_,R,.refl _⟩,tr⟩) (.step (some (10,2,d.V.map ay)) (ee (l:=[(0,.F [])]) (hp:=[(0,.box (az (d) (.X 1 lo n a) (.Y 2 (d.L.map a_) true) (.Y 2 (d.V.map ay) false) (.Y 9 (d.N.map a2) false))),(1,.arr ((A++d.Z++B).map ab) 17)]) R ⟨.refl _,tr⟩ ⟨⟨R,_,R,eg.ZU (qQ (.refl _) (.refl _) (nB (by exact ad)) (.refl _))⟩,⟨R,_,R,.refl _⟩,tr⟩) (.refl _))) (r:=.F []) (h':=aq [(0,.box (az (d) (.X 1 lo n a) (.Y 2 (d.L.map a_) true) (.Y 2 (d.V.map ay) false) (.Y 9 (d.N.map a2) false))),(1,.arr ((A++d.Z++B).map ab) 17)]) (σ:=λz=>z) ⟨R,.inr ⟨1,A,B,a,.inl ⟨R,dT⟩,oT,by rw[g,w]⟩⟩ R (qT (λz=>z) R R wH R)
 all_goals
  have al:k<=W:=v.1;have H:k<=2:=oT;have f:d.E (t+2*k):=v.2.1;have g:A.length=lo:=v.2.2.1;have w:d.Z.length=n:=v.2.2.2.1;have hA:A.length+n+B.length<=1000:=v.2.2.2.2.1;have u:bx (W-k) d=bx W c:=v.2.2.2.2.2;obtain⟨e,D⟩:=Ij d.Z;have ar:=f.ret;have av:=f.Z';refine qS 0 R<|de (decide ((k:Int)<c.Q.o)) (λX=>?_) (λX=>?_)
  .have ag:=ax X;refine zV (vB (d.halt != 0))<|gS R id<|gS R id<|gS R id<|gS R id<|aw R id R<|aw R id (ak (ba _ _))<|zN R (by simp)<|gS R id<|gS R id<|gS R id<|gS R id<|pB (x:=.x 1 (lo+0) 0) (g:= !(cE (d.halt != 0) true (n==0))) R R R R (λh=>h) R R (λJ=>by refine⟨dT,FF.2 ?_⟩;have z:=J;show 0<n;simp[ey]at z;omega)<|gS R id<|DK (ab e) (x:=vI e.is) (g:= !(cE (d.halt != 0) true (n==0))) R R R R (λh=>h) R R (λJ=>⟨aG _,iH (jK g (D (by have z:=J;simp[ey]at z;omega)))⟩) R<|aw R id R<|zN R (by simp)<|zB R (λZ=>?_) (λZ=>?_)
   .have j:((d.halt≠0\/n=0)\/e.is≠3):=by have z:=Z;simpa [ey]using z
    refine ck 0 R ?_;have o:ei c=bx (W-k) d:=by rw[u];show bx c.Q.o.toNat c=_;rw[G];rfl
    have p:ei c=d:=o.trans (j.elim (λq=>mG (by rw[w];exact q)) (λq=>(Classical.em (d.halt≠0\/d.Z.length=0)).elim mG λU=>(iX ad (λq=>U (.inl q)) (D (eU λz=>U (.inr z)))).trans (aa q)));rw[p];subst g;subst w
    first|exact Jg (.refl _) none ⟨rfl,.inr ⟨1,A,B,a,.inl ⟨rfl,dT⟩,oT,rfl⟩⟩ (i9 rfl (qQ (.refl _) (.refl _) (.clip _ _) (.clip _ _)) (mb rfl trivial))|exact Jg (.refl _) (some (9,9,d.N.map a2)) ⟨rfl,.inr ⟨1,A,B,a,.inl ⟨rfl,dT⟩,oT,rfl⟩⟩ (i9 rfl (qQ (.refl _) (.refl _) (.clip _ _) (nB (by exact ad))) (mb rfl trivial))
   have j: ¬((d.halt≠0\/n=0)\/e.is≠3):=by have z:=Z;simpa [ey]using z
   have E: ¬d.halt≠0:=λq=>j (.inl (.inl q));have ao: ¬n=0:=λq=>j (.inl (.inr q));have K:0<d.Z.length:=oT;have l:=D K;have b:=f.ok.Z6 e (aB l);refine nW (.x 1 (lo+0) 0) R R (⟨dT,FF.2 (by show 0<n;exact ad)⟩)<|zX (ab e) (.agg (ab e)) R (iH (jK g l))<|zC (RT e b)<|de (((cA e).halt) != 0) (λh3=>?_) (λh3=>?_)
   .have F:=wM h3;refine a7<|oR 7 R<|rV (.Y 9 ([a2 (cA e)]) true) R ?_
    first|refine eo (x:=.X 62 0 (d.N.length+1) false) (h':=an _ 62 (some (.arr ((d.N++([(cA e)])).map a2) 9))) R R (Au a2 d.N ([(cA e)]) ad) (⟨by exact ad,by exact ad,tr,tr⟩) ?_|refine eo (x:=.X 62 0 (d.N.length+1) false) (h':=an (an _ 9 none) 62 (some (.arr ((d.N++([(cA e)])).map a2) 9))) R R (iP a2 d.N ([(cA e)]) ad ad) (⟨by exact ad,by exact ad,tr⟩) ?_
    refine oR 3 R<|dv 0 (az d (.X 1 lo n a) (.Y 2 (d.L.map a_) true) (.Y 2 (d.V.map ay) true) (.X 62 0 (d.N.length+1) false)) R R R<|rE 67<|nj 0 R<|dv 0 (az ({d with halt:=(cA e).halt}:Co) (.X 1 lo n a) (.Y 2 (d.L.map a_) true) (.Y 2 (d.V.map ay) true) (.X 62 0 (d.N.length+1) false)) R R R<|d_ 0 R<|dv 0 (az ({d with halt:=(cA e).halt}:Co) (.Y 0 ([]) true) (.Y 2 (d.L.map a_) true) (.Y 2 (d.V.map ay) true) (.X 62 0 (d.N.length+1) false)) R R R<|d_ 0 R<|dv 0 (az ({d with halt:=(cA e).halt}:Co) (.Y 0 ([]) true) (.Y 0 ([]) true) (.Y 2 (d.V.map ay) true) (.X 62 0 (d.N.length+1) false)) R R R<|d_ 0 R<|dv 0 (az ({d with stop:=true,halt:=(cA e).halt}:Co) (.Y 0 ([]) true) (.Y 0 ([]) true) (.Y 2 (d.V.map ay) true) (.X 62 0 (d.N.length+1) false)) R R R<|cg 0 R<|ck 0 R ?_;have o:ei c=bx (W-k) d:=by rw[u];show bx c.Q.o.toNat c=_;rw[G];rfl
    have p:ei c=tM d (cA e):=by rw[o,iX ad E l,dZ (λq=>j (.inr q)),aa F]
    rw[p];exact Jg (.refl _) (some (62,9,(d.N++([(cA e)])).map a2)) ⟨R,.inl ⟨R,R⟩⟩ (i9 R (qQ (.nil 17 false) (.nil 2 true) (.clip _ _) (nB (by exact ad))) tr)
   have F:=wN h3;refine zR<|zG R id<|zG R id<|zG R id<|zG R id<|gn (x:=vN d.V.length) R id (cD ay d.V)<|zG R id<|zG R id<|zG R id<|zG R id<|zG R id<|gn (x:=vB (decide (((d.V.length:Nat):Int)>=d.Q.V))) R b9 R<|zN R (λh=>h)<|zB R (λh4=>?_) (λh4=>?_)
   .have m:((cA e).store=true/\(d.V.length:Int)>=d.Q.V):=by have z:=h4;simpa [iz]using z
    refine ck 0 R ?_;have o:ei c=bx (W-k) d:=by rw[u];show bx c.Q.o.toNat c=_;rw[G];rfl
    have p:ei c=d:=by rw[o,iX ad E l,dZ (λq=>j (.inr q)),dZ (λq=>q F),aa m]
    rw[p];subst g;subst w
    first|exact Jg (.refl _) none ⟨rfl,.inr ⟨1,A,B,a,.inl ⟨rfl,dT⟩,oT,rfl⟩⟩ (i9 rfl (qQ (.refl _) (.refl _) (.clip _ _) (.clip _ _)) (mb rfl trivial))|exact Jg (.refl _) (some (9,9,d.N.map a2)) ⟨rfl,.inr ⟨1,A,B,a,.inl ⟨rfl,dT⟩,oT,rfl⟩⟩ (i9 rfl (qQ (.refl _) (.refl _) (.clip _ _) (nB (by exact ad))) (mb rfl trivial))
   have m: ¬((cA e).store=true/\(d.V.length:Int)>=d.Q.V):=by have z:=h4;simpa [iz]using z
   have r:(cA e).store=true->d.V.length<=999:=λq=>by have:=pD f.cf;have: ¬(d.V.length:Int)>=d.Q.V:=λz=>m ⟨q,z⟩;omega
   refine a7<|oR 7 R<|rV (.Y 9 ([a2 (cA e)]) true) R ?_
   first|refine eo (x:=.X 79 0 (d.N.length+1) false) (h':=an _ 79 (some (.arr ((d.N++([(cA e)])).map a2) 9))) R R (Au a2 d.N ([(cA e)]) ad) (⟨by exact ad,by exact ad,tr,tr⟩) ?_|refine eo (x:=.X 79 0 (d.N.length+1) false) (h':=an (an _ 9 none) 79 (some (.arr ((d.N++([(cA e)])).map a2) 9))) R R (iP a2 d.N ([(cA e)]) ad ad) (⟨by exact ad,by exact ad,tr⟩) ?_
   refine oR 3 R<|dv 0 (az d (.X 1 lo n a) (.Y 2 (d.L.map a_) true) (.Y 2 (d.V.map ay) true) (.X 79 0 (d.N.length+1) false)) R R R<|rE 84<|qX 0 R<|zC (LO (cA e) (fE b))<|aV R (λM=>?_) (λM=>?_)
   .refine a7<|oR 7 R<|rV (.Y 2 ([[vU (((iJ (cA e)).getD ⟨0,oZ⟩).W),.v (.string (((iJ (cA e)).getD ⟨0,oZ⟩).data))]]) true) R<|eo (x:=.X 101 0 (d.V.length+1) false) (h':=an _ 101 (some (.arr ((d.V++([((iJ (cA e)).getD ⟨0,oZ⟩)])).map ay) 2))) R R (Au ay d.V ([((iJ (cA e)).getD ⟨0,oZ⟩)]) ad) (⟨by exact ad,by exact ad,tr,tr⟩)<|oR 3 R<|dv 0 (az d (.X 1 lo n a) (.Y 2 (d.L.map a_) true) (.X 101 0 (d.V.length+1) false) (.X 79 0 (d.N.length+1) false)) R R R<|rE 106<|qX 0 R<|aW R (pS e.i)<|b0 (ak (ba _ _)) (λh6=>by exact absurd (eq_of_beq h6) (tJ M)) (λ_=>?_);refine a7<|oR 7 R<|aW R (GQ d.r (cA e) f.ok.r (fE b))<|oR 3 R<|dv 0 (az ({d with r:=lY d.r (cA e)}:Co) (.X 1 lo n a) (.Y 2 (d.L.map a_) true) (.X 101 0 (d.V.length+1) false) (.X 79 0 (d.N.length+1) false)) R R R<|rE 122<|jk 0 R<|a7<|oR 12 R<|aW R (AZ d.K (cA e).M (cA e).next e.i f.ok.K (fE b).M (fE b).next b.C)<|oR 3 R<|dv 0 (az ({d with r:=lY d.r (cA e),K:=(fM d.K (cA e).M (cA e).next e.i)}:Co) (.X 1 lo n a) (.Y 2 (d.L.map a_) true) (.X 101 0 (d.V.length+1) false) (.X 79 0 (d.N.length+1) false)) R R R<|rE 139<|qX 0 R<|nW _ R (GG R (by simp only[Option.getD];omega)) g_<|d_ 0 R<|dv 0 (az ({d with r:=lY d.r (cA e),K:=(fM d.K (cA e).M (cA e).next e.i)}:Co) (.X 1 (lo+1) (n-1) a) (.Y 2 (d.L.map a_) true) (.X 101 0 (d.V.length+1) false) (.X 79 0 (d.N.length+1) false)) R R R ?_;have b1:k+1<=3:=aD H (aC 1);refine qR 0 R<|zW _ (ap (bH b1 R))<|.mk _ (.refl _) ⟨(k+1,(Bm d e),A++[e],lo+1,n-1,some true),λi=>match i with|9=>79|10=>101|i=>i,au _ wT ⟨⟨R,(GI (c:=(Bm d e)) (am (λz=>AV.X 101 0 z false) (show d.V.length+1=(fZ d (cA e)).V.length from by rw[(mN M)];simp)) (am (λz=>AV.X 79 0 z false) (show d.N.length+1=(d.N++[cA e]).length from by simp))),R⟩,⟨R,(am (λz:List ai=>some (a'.arr (z.map ab) 17)) (xY l)),R⟩,⟨R,R,R⟩,⟨R,(am (λz:List Pt=>some (a'.arr (z.map ay) 2)) (mN M).symm),R⟩,tr⟩ R,R,⟨oT,(by have q:=xZ f ad b r;rwa [(oT:t+2*k+2=t+2*(k+1))]at q),by simp;omega,(by show(d.Z.drop 1).length=n-1;rw[bD];omega),by simp;omega,Eq.trans (by rw[iX (n:=W-k) ad E l,dZ (λq=>j (.inr q)),dZ (λq=>q F),dZ m,An (tJ M)];congr 1) u⟩,by show W-(k+1)<W-k;omega⟩
   skip;refine o' 0 0 R<|Fq (κ:=Unit) (λV=>⟨a6 [(0,.ptr 0 0),(11,vI c.Q.o),(12,vN k),(2,.ptr 45 0),(3,.ptr 49 0)],aq [(0,.box (az ({d with data:=(mM d e).data,U:=(mM d e).U,asked:=(mM d e).asked}:Co) (.X 1 lo n a) (.Y 2 (d.L.map a_) true) (.Y 2 (d.V.map ay) true) (.X 79 0 (d.N.length+1) false))),(1,.arr ((A++d.Z++B).map ab) 17),(45,.box (ab e)),(49,.box (a2 (cA e))),(79,.arr ((d.N++([(cA e)])).map a2) 9)],93⟩) (λV=>True) ?_ ?_
   .refine qS 0 R<|aW R (pS e.i)<|b0 (ak (ba _ _)) (λh7=>?_) (λh7=>?_)
    .have T:=mT h7;refine zH R ((Qt (fZ d (cA e)) (t+2*k+1) (sF f ad (fE b) r) (cA e).W (fE b).W lo n a ((A++d.Z++B).map ab) true (d.L.map a_) true (d.V.map ay) 0 (d.N.length+1) false ((d.N++([(cA e)])).map a2)).fB (λz=>match z with|2=>79|z=>z)) ?_;rintro _ _ ⟨rfl,rfl⟩;refine .mk _ (.refl _) ⟨(),λs=>s,au _ wT ⟨⟨R,(by rw[Ch T];rfl),R⟩,⟨R,R,R⟩,⟨R,R,R⟩,⟨R,R,R⟩,⟨R,R,R⟩,tr⟩ R,R,tr⟩
    have T:=nA h7;refine .mk _ (.refl _) ⟨(),λs=>s,au _ wT ⟨⟨R,(by rw[Ci T];rfl),R⟩,⟨R,R,R⟩,⟨R,R,R⟩,⟨R,R,R⟩,⟨R,R,R⟩,tr⟩ R,R,tr⟩
   intro V _;refine j4 0 R<|a7<|oR 7 R<|aW R (GQ d.r (cA e) f.ok.r (fE b))<|oR 3 R<|dv 0 (az ({d with r:=lY d.r (cA e),data:=(mM d e).data,U:=(mM d e).U,asked:=(mM d e).asked}:Co) (.X 1 lo n a) (.Y 2 (d.L.map a_) true) (.Y 2 (d.V.map ay) true) (.X 79 0 (d.N.length+1) false)) R R R<|rE 105<|jk 0 R<|a7<|oR 12 R<|aW R (AZ d.K (cA e).M (cA e).next e.i f.ok.K (fE b).M (fE b).next b.C)<|oR 3 R<|dv 0 (az ({d with r:=lY d.r (cA e),data:=(mM d e).data,U:=(mM d e).U,asked:=(mM d e).asked,K:=(fM d.K (cA e).M (cA e).next e.i)}:Co) (.X 1 lo n a) (.Y 2 (d.L.map a_) true) (.Y 2 (d.V.map ay) true) (.X 79 0 (d.N.length+1) false)) R R R<|rE 122<|qX 0 R<|nW _ R (GG R (by simp only[Option.getD];omega)) g_<|d_ 0 R<|dv 0 (az ({d with r:=lY d.r (cA e),data:=(mM d e).data,U:=(mM d e).U,asked:=(mM d e).asked,K:=(fM d.K (cA e).M (cA e).next e.i)}:Co) (.X 1 (lo+1) (n-1) a) (.Y 2 (d.L.map a_) true) (.Y 2 (d.V.map ay) true) (.X 79 0 (d.N.length+1) false)) R R R ?_;have b2:k+1<=3:=aD H (aC 1);refine qR 0 R<|zW _ (ap (bH b2 R))<|.mk _ (.refl _) ⟨(k+1,(Bl d e),A++[e],lo+1,n-1,some false),λi=>match i with|9=>79|i=>i,au _ wT ⟨⟨R,(GI (c:=(Bl d e)) (am (λz:List Pt=>AV.Y 2 (z.map ay) true) (show d.V=(fZ d (cA e)).V from(qO M).symm)) (am (λz=>AV.X 79 0 z false) (show d.N.length+1=(d.N++[cA e]).length from by simp))),R⟩,⟨R,(am (λz:List ai=>some (a'.arr (z.map ab) 17)) (xY l)),R⟩,⟨R,R,R⟩,tr⟩ R,R,⟨oT,(by have q:=CT f ad b r;rwa [(oT:t+2*k+2=t+2*(k+1))]at q),by simp;omega,(by show(d.Z.drop 1).length=n-1;rw[bD];omega),by simp;omega,Eq.trans (by rw[iX (n:=W-k) ad E l,dZ (λq=>j (.inr q)),dZ (λq=>q F),dZ m,ES];congr 1) u⟩,by show W-(k+1)<W-k;omega⟩
  have ag:=aF X;have o:ei c=bx (W-k) d:=by rw[u];show bx c.Q.o.toNat c=_;rw[G];rfl
  have p:ei c=d:=by rw[o,(oT:W-k=0)];rfl
  rw[p];refine ck 0 R ?_
  first|exact SY (rs:=[]) R (.step none (ee (l:=[(0,.F [])]) (hp:=[(0,.box (az (d) (.X 1 lo n a) (.Y 2 (d.L.map a_) true) (.Y 2 (d.V.map ay) false) (.Y 9 (d.N.map a2) false))),(1,.arr ((A++d.Z++B).map ab) 17)]) tr ⟨.refl _,tr⟩ ⟨⟨tr,_,R,eg.ZU (qQ (.refl _) (.refl _) (.clip _ _) (.clip _ _))⟩,⟨tr,_,R,.refl _⟩,tr⟩) (.refl _)) (r:=.F []) (h':=aq [(0,.box (az (d) (.X 1 lo n a) (.Y 2 (d.L.map a_) true) (.Y 2 (d.V.map ay) false) (.Y 9 (d.N.map a2) false))),(1,.arr ((A++d.Z++B).map ab) 17)]) (σ:=λz=>z) ⟨R,.inr ⟨1,A,B,a,.inl ⟨R,dT⟩,oT,by rw[g,w]⟩⟩ R (qT (λz=>z) R R wH R)|exact SY (rs:=[]) R (.step (some (9,9,d.N.map a2)) (ee (l:=[(0,.F [])]) (hp:=[(0,.box (az (d) (.X 1 lo n a) (.Y 2 (d.L.map a_) true) (.Y 2 (d.V.map ay) true) (.Y 9 (d.N.map a2) false))),(1,.arr ((A++d.Z++B).map ab) 17)]) R ⟨.refl _,tr⟩ ⟨⟨R,_,R,eg.ZU (qQ (.refl _) (.refl _) (.refl _) (nB (by exact ad)))⟩,⟨R,_,R,.refl _⟩,tr⟩) (.step none (ee (l:=[(0,.F [])]) (hp:=[(0,.box (az (d) (.X 1 lo n a) (.Y 2 (d.L.map a_) true) (.Y 2 (d.V.map ay) false) (.Y 9 (d.N.map a2) false))),(1,.arr ((A++d.Z++B).map ab) 17)]) tr ⟨.refl _,tr⟩ ⟨⟨tr,_,R,eg.ZU (qQ (.refl _) (.refl _) (.clip _ _) (.refl _))⟩,⟨tr,_,R,.refl _⟩,tr⟩) (.refl _))) (r:=.F []) (h':=aq [(0,.box (az (d) (.X 1 lo n a) (.Y 2 (d.L.map a_) true) (.Y 2 (d.V.map ay) false) (.Y 9 (d.N.map a2) false))),(1,.arr ((A++d.Z++B).map ab) 17)]) (σ:=λz=>z) ⟨R,.inr ⟨1,A,B,a,.inl ⟨R,dT⟩,oT,by rw[g,w]⟩⟩ R (qT (λz=>z) R R wH R)
def Qu(c:Co)(g:Nat)(j:c.E g)(a:c.Z=[]):pM C0.P C0.G 77 [.ptr 0 0] (aq [(0,.box (az c (.Y 17 [] false) (.Y 2 (c.L.map a_) true) (.Y 2 (c.V.map ay) true) (.Y 9 (c.N.map a2) true)))]) 1 (λx h'=>x=.F []/\VF 1 (ei c) (.Y 2 ((ei c).L.map a_) true) (.Y 2 ((ei c).V.map ay) false) (.Y 9 ((ei c).N.map a2) false) h'):=by
 refine hZ 1 func77 R<|lb (κ:=Nat) (λk=>⟨a6 [(0,.ptr 0 0),(11,vI c.Q.o),(12,vN k)],aq [(0,.box (az c (.Y 17 (([]:List ai).map ab) false) (.Y 2 (c.L.map a_) true) (.Y 2 (c.V.map ay) true) (.Y 9 (c.N.map a2) true)))],8⟩) (λk=>k<=2) (λk=>2-k) 0 (λs=>s) (au (λs=>s) wT wH R) R (aE _) ?_;intro k i;refine de (decide ((k:Int)<c.Q.o)) (λb=>?_) (λb=>?_)
 .refine zV (vB (c.halt != 0))<|gS R id<|gS R id<|gS R id<|gS R id<|aw R id (vW ab ([]:List ai) ad)<|aw R id (ak (ba _ _))<|zN R (by simp)<|gS R id<|gS R id<|gS R id<|gS R id<|DK (ab Cs) (x:=.k 17 0 (ab Cs)) (g:= !(cE (c.halt != 0) true (0==0))) R R R R (λh=>h) R R (λf=>(by have z:=f;simp[ey]at z)) R<|gS R id<|gS R id<|aw R id R<|zN R (by simp)<|zB R (λ_=>?_) (λd=>by simp[ey]at d);have e:ei c=c:=mG (.inr (by rw[a];rfl));rw[e];exact Jg (.refl _) none ⟨R,.inl ⟨a,R⟩⟩ (i9 R (qQ (.refl _) (.refl _) (.clip _ _) (.clip _ _)) tr)
 have e:ei c=c:=mG (.inr (by rw[a];rfl));rw[e];exact SY (rs:=[]) R (.step none (ee (l:=[(0,.F [])]) (hp:=[(0,.box (az (c) (.Y 17 (([]:List ai).map ab) false) (.Y 2 (c.L.map a_) true) (.Y 2 (c.V.map ay) false) (.Y 9 (c.N.map a2) false)))]) tr ⟨.refl _,tr⟩ ⟨⟨tr,_,R,eg.ZU (qQ (.refl _) (.refl _) (.clip _ _) (.clip _ _))⟩,tr⟩) (.refl _)) (r:=.F []) (h':=aq [(0,.box (az (c) (.Y 17 (([]:List ai).map ab) false) (.Y 2 (c.L.map a_) true) (.Y 2 (c.V.map ay) false) (.Y 9 (c.N.map a2) false)))]) (σ:=λz=>z) ⟨R,.inl ⟨a,R⟩⟩ R (qT (λz=>z) R R wH R)
def oY{a:Type}(f:a->a)(l:List a)(k:Nat):List a:=(l.take k).map f++l.drop k
def ps{a:Type}{f:a->a}{l:List a}{k:Nat}:(oY f l k).length=l.length:=by unfold oY;simp;omega
def EQ{a:Type}{f:a->a}{l:List a}{k:Nat}(h:l.length<=k):oY f l k=l.map f:=by
 unfold oY;rw[aN h,cB h,dY]
def TU{a:Type}{f:a->a}{l:List a}{k:Nat}:(oY f l k)[k]?=l[k]? :=by
 unfold oY;rcases fb k l.length with h|h
 .have b:((l.take k).map f).length=k:=by rw[aH,aM];omega
  rw[bM ad,b,eK,cL,iU]
 rw[cB h,dY,bE (by simp;omega),bE h]
def Cg{a:Type}{f:a->a}{l:List a}{k:Nat}{x:a}(h:(oY f l k)[k]?=some x):(oY f l k).set k (f x)=oY f l (k+1):=by
 rw[TU]at h;obtain⟨b,rfl⟩:=Em.1 h;have c:((l.take k).map f).length=k:=by rw[aH,aM];omega
 unfold oY;rw[bF b,iN _ _ ad,c,eK,gM,bW,aA b,dH,eD];rfl
def OC{a:Type}{f:a->a}{l:List a}{k:Nat}{x:a}(h:(oY f l k)[k]?=some x)(b:f x=x):oY f l k=oY f l (k+1):=by
 rw[<-Cg h,b];obtain⟨c,rfl⟩:=Em.1 h;exact(List.set_getElem_self c).symm
def Ii{a:Type}{P:a->Prop}{f:a->a}{l:List a}(b:∀x,P x->P (f x))(h:∀x∈l,P x)(k:Nat):∀x∈oY f l k,P x:=by
 intro x hx;rcases dz.1 hx with hx|hx
 .obtain⟨y,c,rfl⟩:=pG.1 hx;exact b y (h y (cQ c))
 exact h x (eT hx)
def Qr{e:ai}(h:e.ok){b:Nat}(d:b<=4294967295):(uF e b).ok:=by
 have c:la b (bh e.i.op)<=4294967295:=by
  have a:=lQ e.i.op;unfold la;have:=Fo (oF b (bh e.i.op)) (by rw[mP];exact a);omega
 unfold uF;split
 .exact h
 exact⟨h.M,h.C,h.K,c,h.next,h.W⟩
def CS{r:Nat->Nat}{l:List ai}{j:Nat}{x:ai}(a:l[j]?=some x)(h: ¬aj x.i.op=4):gm r l j=l:=by unfold gm;rw[a];exact dZ h
def qd{r:Nat->Nat}{l:List ai}{j:Nat}{x:ai}(a:l[j]?=some x)(h:(lK l r j x.i.A).isSome=false):gm r l j=l:=by
 unfold gm;rw[a];dsimp only;split
 .rw[(sU h:lK l r j x.i.A=none)]
 rfl
def Am{r:Nat->Nat}{l:List ai}{j:Nat}{x:ai}(d:l[j]?=some x)(c:aj x.i.op=4)(h:(lK l r j x.i.A).isSome=true):gm r l j=l.set j (uF x ((lK l r j x.i.A).getD 0)):=by
 unfold gm;rw[d];dsimp only;rw[aa c];obtain⟨b,a⟩:=FH.1 h;rw[a];rfl
def LI(r:Nat->Nat)(l:List ai)(j:Nat):(gm r l j).length=l.length:=by
 unfold gm;repeat' split
 all_goals simp
theorem Ds{r:Nat->Nat}{l:List ai}:∀{k:Nat},(cN r l k).length=l.length
 |0=>rfl
 |k+1=>(LI ..).trans Ds
theorem kz{r:Nat->Nat}{l:List ai}(h:∀x∈l,x.ok)(d:∀k,r k<=4294967295):∀k,∀x∈cN r l k,x.ok
 |0=>h
 | k+1=>by
  have ih:=kz h d k;show ∀x∈gm r (cN r l k) k,x.ok
  cases a:(cN r l k)[k]? with
  |none=>unfold gm;rw[a];exact ih
  | some x=>
   by_cases b:aj x.i.op=4
   .cases c:(lK (cN r l k) r k x.i.A).isSome with
    |true=>rw[Am a b c];exact ea (P:=ai.ok) ih (Qr (ih x (aB a)) (Ck ih d _ _))
    |false=>rw[qd a c];exact ih
   .rw[CS a b];exact ih
def tI{l:List ai}(h:∀x∈l,x.ok):∀x∈l.map bn,x.ok:=by
 intro x a;obtain⟨y,b,rfl⟩:=pG.1 a;exact QH (h y b)
def nN(c:Co):(b5 c).length=c.Z.length:=by unfold b5;rw[Ds,aH]
def vV{c:Co}{n:Nat}(h:c.E n):∀x∈b5 c,x.ok:=kz (tI h.ok.Z6) h.ok.r _
def ER{l:List ai}{i:Nat}(h:yD l=some i):i<l.length:=(List.findIdx?_eq_some_iff_getElem.1 h).1
def MO{l:List ai}{i:Nat}(h:i<l.length):(DY l i).length=i+1:=by
 unfold DY;rw[aA h];simp;omega
def WS{l:List ai}{i:Nat}(h:∀x∈l,x.ok):∀x∈DY l i,x.ok:=by
 unfold DY
 cases b:l[i]? with
 |none=>exact h
 |some e=>
  have a:=h e (aB b);exact sJ (zD h) (sK (P:=ai.ok) ⟨a.M,a.C,a.next,a.value,a.next,a.W⟩)
def Qs{c:Type}{A l B:List c}{lo n:Nat}(a:A.length=lo)(b:l.length=n):((A++l++B).drop lo).take n=l:=by
 subst a;subst b;rw[eD,List.drop_left,List.take_left]
def GE{c:Co}(a: ¬c.halt≠0)(h:yD (b5 c)=none):kK c={c with Z:=b5 c}:=by
 unfold kK;rw[dZ a,h]
def GF{c:Co}{i:Nat}{x:ai}(a: ¬c.halt≠0)(h:yD (b5 c)=some i)(b:(b5 c)[i]?=some x):kK c={c with Z:=DY (b5 c) i,J:=x.next,L:=[],stop:=false}:=by
 unfold kK;rw[dZ a,h];dsimp only;rw[b]
def Ka{c:Co}(h:c.Z=[]):kK c=c:=by
 unfold kK b5;rw[h];split
 .rfl
 show {c with Z:=[]}=c;rw[<-h]
def LJ{c:Co}{n:Nat}(h:c.E n):(kK c).E n:=by
 have j:=nN c;have d:=vV h;by_cases a:c.halt≠0
 .rw[show kK c=c from aa a];exact h
 .cases e:yD (b5 c)with
  |none=>
   rw[GE a e]
   exact⟨⟨h.ok.Q,h.ok.prog,h.ok.Z4,h.ok.r,h.ok.J,h.ok.Z5,h.ok.ZV,by rw[j];exact h.ok.Z,d,h.ok.Z',h.ok.Z0,h.ok.data,h.ok.u,h.ok.U,h.ok.Z_,h.ok.asked,h.ok.Z1,h.ok.mem,h.ok.K,h.ok.ret,h.ok.ZW⟩,h.nb,h.cf,h.data,h.u,h.K,by rw[j];exact h.Z,h.Z5,h.Z',h.prog,h.mem,h.ZO⟩
  |some i=>
   have b:=ER e;have f:=aA b;have g:=MO b;have k:=h.Z;rw[GF a e f];exact⟨⟨h.ok.Q,h.ok.prog,h.ok.Z4,h.ok.r,(d _ (jO b)).next,aE _,(λx f=>by cases f),by show(DY _ _).length<=_;rw[g];omega,WS d,h.ok.Z',h.ok.Z0,h.ok.data,h.ok.u,h.ok.U,h.ok.Z_,h.ok.asked,h.ok.Z1,h.ok.mem,h.ok.K,h.ok.ret,h.ok.ZW⟩,h.nb,h.cf,h.data,h.u,h.K,by show(DY _ _).length<=_;rw[g];omega,aE _,h.Z',h.prog,h.mem,h.ZO⟩
end Go.Proofs.YtiaekocjeinkjaaGreatDoor
