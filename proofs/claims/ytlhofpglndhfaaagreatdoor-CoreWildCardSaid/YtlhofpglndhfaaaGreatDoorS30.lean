/- Joined texts. -/
import Derived.Test.YtlhofpglndhfaaaGreatDoorS1
import Derived.Test.YtlhofpglndhfaaaGreatDoorS29
set_option linter.unusedVariables false
set_option linter.unusedSimpArgs false
namespace Go.Proofs.YtlhofpglndhfaaaGreatDoor
open Go.RowKit
def UM(l:List Nat)(β:Bt):Bt:=λ s=>if s∈l then β s else none
theorem BF{α:Type}{f g:Nat→List α}:∀ (l:List Nat),(∀ i∈l,f i=g i)→l.flatMap f=l.flatMap g
 |[],_=>rfl
 |x::l,h=>by rw[eZ,eZ,h x bO,BF l λ i hi=>h i (bZ _ hi)]
theorem wE:∀ (cs:List AV) (i:Nat) (a:AV) (s:Nat),cs[i]?=some a→s∈iV a→s∈yD cs
 |[],i,a,s,h,_=>by simp at h
 |c::cs,0,a,s,h,hs=>by simp at h;subst h;simp[yD,hs]
 |c::cs,i+1,a,s,h,hs=>by simp only[yD,al_List_mem_append];exact .inr (wE cs i a s (by simpa using h) hs)
theorem Qk{S:Nat→Prop}{w:World}{β:Bt}{a:AV}{x:Value}(h:Rep S w β a x):∀ {β':Bt},(∀ s∈iV a,∀ l,β s=some l→β' s=some l)→Rep S w β' a x:=by
 induction h with
 |v x=>intro β' _;exact .v x
 |agg cs vs hl h1 h ih=>intro β' hb;exact .agg cs vs hl h1 λ i a u h1 h2=>ih i a u h1 h2 λ s hs=>hb s (wE cs i a s h1 hs)
 |tup cs vs hl h ih=>intro β' hb;exact .tup cs vs hl λ i a u h1 h2=>ih i a u h1 h2 λ s hs=>hb s (wE cs i a s h1 hs)
 |sl rs rows clip A c b o u hc hm hcl hrs hA hw h1 hr ih=>intro β' _;exact .sl rs rows clip A c b o u hc hm hcl hrs hA hw h1 hr
 |dp rs col row b o u hrs hb hw h1 hr ih=>intro β' _;exact .dp rs col row b o u hrs hb hw h1 hr
 |ptr s col l hl=>intro β' hb;exact .ptr s col l (hb s (by simp[iV]) _ hl)
 |ptr2 s row col l hl=>intro β' hb;exact .ptr2 s row col l (hb s (by simp[iV]) _ hl)
 |osl s lo len clip l A c hl hc hm hcl hA cs e fr hb room=>intro β' hβ;exact .osl s lo len clip l A c (hβ s (by simp[iV]) _ hl) hc hm hcl hA cs e fr hb room
 |clo f first caps vs us hl h hl' h' ih ih'=>intro β' hb;exact .clo f first caps vs us hl (λ i a u h1 h2=>ih i a u h1 h2 λ s hs=>hb s (by simp only[iV,al_List_mem_append];exact .inl (wE _ i a s h1 hs))) hl' λ i a u h1 h2=>ih' i a u h1 h2 λ s hs=>hb s (by simp only[iV,al_List_mem_append];exact .inr (wE _ i a s h1 hs))
 |optT g a x hg h ih=>intro β' hb;exact .optT g a x hg (ih λ s hs=>hb s (by simpa [iV]using hs))
 |optF g a hg=>intro β' _;exact .optF g a hg
 |any x=>intro β' _;exact .any x
theorem Nd{S:Nat→Prop}{w:World}{β:Bt}{l:List Nat}{a:AV}{x:Value}(h:Rep S w β a x)(hl:∀ s∈iV a,s∈l):Rep S w (UM l β) a x:=
 Qk h λ s hs loc hb=>by show (if s∈l then β s else none)=some loc;rw[if_pos (hl s hs)];exact hb
theorem Dd:∀ (l:List Value) (s:Nat),s ∉ yD (l.map Vc)
 |[],s=>by simp[yD]
 |v::l,s=>by
  simp only[iW,yD,al_List_mem_append,not_or];refine⟨?_,Dd l s⟩;unfold Vc;split<;>simp[iV]
theorem LV(v:Value)(s:Nat):s ∉ iV (MW v):=by
 unfold MW;split
 ·simp[iV]
 ·split
  ·simp only[iV];exact Dd _ s
  ·simp[iV]
 ·simp[iV]
theorem Nf{C:Ctx}{t:Nat→AV}{x:Operand}{s:Nat}(h:s∈iV (evA C t x)):∃ i,x=.tmp i∧s∈iV (t i):=by
 cases x with
 |tmp i=>exact⟨i,rfl,h⟩
 |const v=>exact absurd h (LV v s)
 |global g=>
  have h:s∈iV (match C.G g with|some cells=>.dp cells.length 0 cells|none=>.any):=h
  split at h<;>simp[iV]at h
 |func f=>simp[evA,iV,yD]at h
theorem FI{C:Ctx}{t:Nat→AV}{o:Oper}{x:Operand}{s:Nat}(hx:x∈o.op.operands)(h:s∈iV (evA C t x)):s∈oM t o:=by
 obtain⟨i,rfl,h⟩:=Nf h;exact KA.2 ⟨i,AJ _ i (by simpa using hx),h⟩
theorem De{x:AV}{s:Nat}(h:s∈iV (At x)):s∈iV x:=by
 cases x<;>first|exact h|simpa [iV,At]using h
theorem Ng{C:Ctx}{t:Nat→AV}(op:Op){x:Operand}{s:Nat}(h:s∈iV (evS C t op x)):s∈iV (evA C t x):=by
 cases op<;>first|exact De h|skip
 case pick c a b=>
  have h:s∈iV (match JD c x with|true=>At (evA C t x)|false=>evA C t x):=h;split at h
  ·exact De h
  ·exact h
section
variable {C:Ctx}{V:Inv C.fr}
theorem Ql{ev:Operand→AV}{h:AH}{s:Nat}(op:Op):(∀ p x h',opA C ev h s op=.fx p x h'→∀ b,b≠s→h' b≠h b→∃ x∈op.operands,b∈iV (ev x))∧
    (∀ rows i f,opA C ev h s op=.idxfx rows i f→∀ row h',f row=some h'→∀ b,b≠s→h' b≠h b→∃ x∈op.operands,b∈iV (ev x)):=by
  have new:∀ (blk:Option Blk) b,b≠s→upd h s blk b≠h b→False:=λ blk b hb hn=>hn (cE _ _ hb);have set:∀ (b0:Nat) (blk:Option Blk) b,upd h b0 blk b≠h b→b=b0:=λ b0 blk b hn=>Classical.byContradiction λ e=>hn (cE _ _ e);have oB:∀ (x:Option AV) p y h',okO x≠ .fx p y h':=λ x p y h' hx=>by cases x<;>simp[okO]at hx
  have oI:∀ (x:Option AV) rows i f,okO x≠ .idxfx rows i f:=λ x rows i f hx=>by cases x<;>simp[okO]at hx
  constructor
  · intro p x h' he b hb hn
    cases op<;>simp only[opA]at he
    case makeFunc fn a c=>cases fn<;>cases he
    case store t a v=>
      (repeat' split at he)<;>first|(cases he;done)|skip
      rename_i hev _ _ _ _ _;injection he with _ _ he;subst he;exact⟨a,by simp[Op.operands],by rw[hev,set _ _ _ hn];simp[iV]⟩
    case convert src dst x=>
      simp only[Ev,Cw]at he
      (repeat' split at he)<;>first|(cases he;done)|skip
      injection he with _ _ he;subst he;exact (new _ b hb hn).elim
    case makeSlice t l c=>
      simp only[HG]at he
      (repeat' split at he)<;>first|(cases he;done)|skip
      injection he with _ _ he;subst he;exact (new _ b hb hn).elim
    case alloc t=>
      split at he
      · injection he with _ _ he;subst he
        exact (new _ b hb hn).elim
      · cases he
    case box t x=>
      split at he
      · injection he with _ _ he;subst he
        exact (new _ b hb hn).elim
      · cases he
    case call c =>
      obtain⟨callee,args,ats⟩:=c
      cases callee with
      |value f=>simp only at he;split at he<;>cases he
      |invoke r m=>cases he
      | builtin bi=>
        simp only at he;cases bi<;>try (simp only[bL]at he;cases he;done)
        case append=>
          match hA:args.toList.map ev with
          |[]=>rw[hA]at he;simp only[bL]at he;cases he
          |[_]=>rw[hA]at he;simp only[bL]at he;cases he
          |_::_::_::_=>rw[hA]at he;simp only[bL]at he;cases he
          | [x',y']=>
            rw[hA]at he;simp only[bL]at he;have key:∀ (rx ry:Option (Nat×List (List AV))) (blk:Option Blk) (px py:Prop),blk=Cx h x'→pQ C s ats.toList x' rx ry blk px py h=.fx p x h'→b∈iV x':=by
              intro rx ry blk px py hbk he;unfold pQ at he
              (repeat' split at he)<;>first|(cases he;done)|skip
              · injection he with _ _ he;subst he;exact (new _ b hb hn).elim
              · injection he with _ _ he;subst he;exact (new _ b hb hn).elim
              · injection he with _ _ he;subst he;exact (new _ b hb hn).elim
              · injection he with _ _ he;subst he
                rw[cE _ _ hb]at hn;rw[set _ _ _ hn];simp[iV]
            obtain⟨x1,q1,q2⟩:=rK.1 (show x'∈args.toList.map ev by rw[hA];simp);exact⟨x1,by simp[Op.operands,Call.operands];simpa using q1,by rw[q2];exact key _ _ _ _ _ rfl he⟩
        case copy=>
          match hA:args.toList.map ev with
          |[]=>rw[hA]at he;simp only[bL]at he;cases he
          |[_]=>rw[hA]at he;simp only[bL]at he;cases he
          |_::_::_::_=>rw[hA]at he;simp only[bL]at he;cases he
          | [x',y']=>
            rw[hA]at he;simp only[bL,Do]at he
            (repeat' split at he)<;>first|(cases he;done)|skip
            injection he with _ _ he;subst he;obtain⟨x1,q1,q2⟩:=rK.1 (show AV.osl _ _ _ _∈args.toList.map ev by rw[hA];exact bO);exact⟨x1,by simp[Op.operands,Call.operands];simpa using q1,by rw[q2,set _ _ _ hn];simp[iV]⟩
        case len=>
          match hA:args.toList.map ev with
          |[]=>rw[hA]at he;simp only[bL]at he;cases he
          |_::_::_=>rw[hA]at he;simp only[bL]at he;cases he
          | [x']=>
            rw[hA]at he
            match hT:ats.toList with
            |[]=>rw[hT]at he;simp only[bL]at he;cases he
            |_::_::_=>rw[hT]at he;simp only[bL]at he;cases he
            | [t']=>
              rw[hT]at he;simp only[bL,QG]at he
              (repeat' split at he)<;>cases he
        case min=>
          match hA:args.toList.map ev with
          |[]=>rw[hA]at he;simp only[bL]at he;cases he
          |[_]=>rw[hA]at he;simp only[bL]at he;cases he
          |_::_::_::_=>rw[hA]at he;simp only[bL]at he;cases he
          | [x',y']=>
            rw[hA]at he;simp only[bL,QH]at he
            (repeat' split at he)<;>cases he
        case max=>
          match hA:args.toList.map ev with
          |[]=>rw[hA]at he;simp only[bL]at he;cases he
          |[_]=>rw[hA]at he;simp only[bL]at he;cases he
          |_::_::_::_=>rw[hA]at he;simp only[bL]at he;cases he
          | [x',y']=>
            rw[hA]at he;simp only[bL,QI]at he
            (repeat' split at he)<;>cases he
    all_goals first
      | (simp only[Gd,AY,rX,QJ,unA,AU,QF,FZ,QE,AR,Ga,tS,AW,nO,yU,iP,pB,AX,qY]at he
         (repeat' split at he)<;>first|(cases he;done)|(exact absurd he (oB _ _ _ _)))
      |((repeat' split at he)<;>first|(cases he;done)|(exact absurd he (oB _ _ _ _)))
      |(cases he;done)
  · intro rows i f he row h' hf b hb hn
    cases op<;>simp only[opA]at he
    case makeFunc fn a c=>cases fn<;>cases he
    case store t a v=>
      (repeat' split at he)<;>first|(cases he;done)|skip
      all_goals
        injection he with _ _ he;subst he;dsimp only at hf
        (repeat' split at hf)<;>first
          |(cases hf;done)
          | (injection hf with hf
             subst hf;refine⟨a,by simp[Op.operands],?_⟩;rw[set _ _ _ hn]
             simp_all[iV])
    case call c=>
      obtain⟨callee,args,ats⟩:=c
      cases callee with
      |value f=>simp only at he;split at he<;>cases he
      |invoke r m=>cases he
      | builtin bi=>
        exfalso;simp only at he;unfold bL at he;simp only[QG,QH,QI,Do,pQ]at he
        (repeat' split at he)<;>cases he
    all_goals first
      | (simp only[Gd,AY,rX,QJ,unA,AU,QF,FZ,QE,AR,Ga,Ev,Cw,HG,tS,AW,nO,yU,iP,pB,AX,qY]at he
         (repeat' split at he)<;>first|(cases he;done)|(exact absurd he (oI _ _ _ _)))
      |((repeat' split at he)<;>first|(cases he;done)|(exact absurd he (oI _ _ _ _)))
      |(cases he;done)
theorem LW{R:FuncId→List AV→AV→Prop}{all:List Oper}{o:Oper}{s:Nat}{t:Nat→AV}{h h':AH}{x:AV}(hs:StepR C R all o s t h x h'):∀ b,b≠s→h' b≠h b→b∈oM t o:=by
 intro b hb hn;have fin:(∃ x∈o.op.operands,b∈iV (evA C t x))→b∈oM t o:=λ⟨x,h1,h2⟩=>FI h1 h2;unfold StepR at hs
 cases hg:o.guard with
 |some q=>
  obtain⟨i,pol⟩:=q;simp only[hg]at hs;obtain⟨d,g,y,_,_,_,rfl,_⟩:=hs
  exact absurd rfl hn
 |none=>
  simp only[hg]at hs;obtain⟨H1,H2⟩:=Ql (C:=C) (ev:=evA C t) (h:=h) (s:=s) o.op
  cases hr:opA C (evA C t) h s o.op with
  |bad=>rw[hr]at hs;exact hs.elim
  |ok y=>rw[hr]at hs;obtain⟨_,rfl⟩:=hs;exact absurd rfl hn
  |need p y=>rw[hr]at hs;obtain⟨_,_,rfl⟩:=hs;exact absurd rfl hn
  |idx rows i f=>rw[hr]at hs;obtain⟨_,_,_,_,rfl⟩:=hs;exact absurd rfl hn
  |str p rows=>rw[hr]at hs;obtain⟨_,_,_,_,rfl⟩:=hs;exact absurd rfl hn
  |call f args=>rw[hr]at hs;obtain⟨_,_,_,_,rfl⟩:=hs;exact absurd rfl hn
  |fx p y h2=>rw[hr]at hs;obtain⟨_,_,rfl⟩:=hs;exact fin (H1 p y h' hr b hb hn)
  |idxfx rows i f=>rw[hr]at hs;obtain⟨row,_,_,hf,_⟩:=hs;exact fin (H2 rows i f hr row h' hf b hb hn)
variable {all:List Oper}{o:Oper}{s N:Nat}{t tX:Nat→AV}{h h' hX:AH}{a:Act}{w w0:World}{D:Nat→Prop}{S0:Nat→Prop}{S:Nat→Prop}{β:Bt}{R:FuncId→List AV→AV→Prop}{x:AV}
theorem Nh(M:SimD C V w0 S0 N D tX hX a w S β)(hst:StepR C R all o s t h x h')(hlook:∀ i∈pU all o,tX i=t i)(hag:pL o.op=true→Ah (UM (oM tX o) β) h hX):
  ∃ h2,StepR C R all o s tX hX x h2∧Qp h hX s (mE o.op) (UM (oM tX o) β) h' h2:=by
 have hops:∀ i,.tmp i∈o.op.operands.toList→tX i=t i:=λ i hi=>hlook i (by simp only[pU,al_List_mem_append];exact .inl (.inr (AJ _ i hi)));have hev:∀ x∈o.op.operands,evA C tX x=evA C t x:=λ x hx=>by
  cases x with
  |tmp i=>exact hops i (by simpa using hx)
  |_=>rfl
 have hrep:∀ x∈o.op.operands,Rep S w (UM (oM tX o) β) (evA C tX x) (a.eval x):=λ x hx=>Nd (tR M x) λ s hs=>FI hx hs;unfold StepR at hst⊢
 cases hg:o.guard with
 |none=>
  simp only[hg]at hst⊢;rw[qK (ev':=evA C tX) o.op λ x hx=>(hev x hx).symm]at hst
  exact zP o.op hrep hag hst
 | some q=>
  obtain⟨i,pol⟩:=q;simp only[hg]at hst⊢;obtain⟨d,g,y,q1,q2,q3,rfl,q4⟩:=hst;have hd:tX d=t d:=hlook d (by simp only[pU,hg,q1,al_List_mem_append];exact .inr (by simp));have hcs:condsO tX o.op=condsO t o.op:=Ce _ hops;refine⟨hX,⟨d,g,y,q1,by rw[hd];exact q2,q3,rfl,?_⟩,Qp.refl⟩;rcases q4 with ⟨c1,c2⟩|⟨c,c1,c2,c3⟩
  ·refine .inl ⟨by rw[hcs];exact c1,λ hg'=>?_⟩;obtain⟨f1,f2⟩:=c2 hg';rw[qK (ev':=evA C tX) o.op λ x hx=>(hev x hx).symm]at f1 f2;obtain⟨h2,e1,_⟩:=zP o.op hrep hag f2;have T:=Hw (C:=C) (s:=s) o.op hrep hag;have e2:opA C (evA C tX) hX s o.op=opA C (evA C tX) h' s o.op:=by
    cases hr:opA C (evA C tX) h' s o.op<;>rw[hr]at T f1<;>first|exact T|(simp[isFx]at f1)
   rw[e2]at e1⊢;refine⟨f1,?_⟩;cases hr:opA C (evA C tX) h' s o.op<;>rw[hr]at e1 f1<;>first|(simp[isFx]at f1;done)|skip
   ·obtain⟨rfl,rfl⟩:=e1;exact⟨rfl,rfl⟩
   ·obtain⟨p,rfl,rfl⟩:=e1;exact⟨p,rfl,rfl⟩
   ·obtain⟨row,p1,p2,p3,rfl⟩:=e1;exact⟨row,p1,p2,p3,rfl⟩
   ·obtain⟨l,p1,p2,p3,rfl⟩:=e1;exact⟨l,p1,p2,p3,rfl⟩
   ·obtain⟨p1,p2,p3,p4,rfl⟩:=e1;exact⟨p1,p2,p3,p4,rfl⟩
  ·refine .inr ⟨c,by rw[hcs];exact c1,c2,λ hg'=>?_⟩;obtain⟨f1,f2⟩:=c3 hg';rw[qK (ev':=evS C tX o.op) o.op λ x hx=>(Hu o.op hev x hx).symm]at f1 f2;have hsr:∀ x∈o.op.operands,Rep S w (UM (oM tX o) β) (evS C tX o.op x) (a.eval x):=λ x hx=>Nd (Js M o.op (hcs.trans c1) (c2 hg') x hx) λ s hs=>FI hx (Ng o.op hs);obtain⟨h2,e1,_⟩:=zP o.op hsr hag f2;have T:=Hw (C:=C) (s:=s) o.op hsr hag;have e2:opA C (evS C tX o.op) hX s o.op=opA C (evS C tX o.op) h' s o.op:=by
    cases hr:opA C (evS C tX o.op) h' s o.op<;>rw[hr]at T f1<;>first|exact T|(simp[isFx]at f1)
   rw[e2]at e1⊢;refine⟨f1,?_⟩;cases hr:opA C (evS C tX o.op) h' s o.op<;>rw[hr]at e1 f1<;>first|(simp[isFx]at f1;done)|skip
   ·obtain⟨rfl,rfl⟩:=e1;exact⟨rfl,rfl⟩
   ·obtain⟨p,rfl,rfl⟩:=e1;exact⟨p,rfl,rfl⟩
   ·obtain⟨row,p1,p2,p3,rfl⟩:=e1;exact⟨row,p1,p2,p3,rfl⟩
   ·obtain⟨l,p1,p2,p3,rfl⟩:=e1;exact⟨l,p1,p2,p3,rfl⟩
   ·obtain⟨p1,p2,p3,p4,rfl⟩:=e1;exact⟨p1,p2,p3,p4,rfl⟩
end
structure DrawOk2(l:List Oper)(tE:Nat→AV):Prop where
 back:∀ j oj,l[j]?=some oj→∀ e∈oj.after.toList,Region.binds .any e=true→e.on<j
 late:∀ (j:Nat) (oj:Oper) (k:Nat) (ok:Oper) (d:Nat),l[j]?=some oj→l[k]?=some ok→pL oj.op=true→j≤k→ok.dst=some d→d ∉ Cy oj.op.operands.toList
 slot:∀ i j oi oj d,l[i]?=some oi→l[j]?=some oj→i≠j→oi.dst=some d→d∈pU l oj→HH (xD l []) i j=true
 mem:∀ i j oi oj b,l[i]?=some oi→l[j]?=some oj→i≠j→mE oi.op=true→pL oj.op=true→b∈oM tE oi→b∈oM tE oj→HH (xD l []) i j=true
theorem Qm{a b:List Nat}{x:Nat}(ha:x∈a)(hb:x∈b):meets a b=true:=
 KB.2 ⟨x,ha,KB.2 ⟨x,hb,by simp⟩⟩
theorem Ht{l:List Oper}{tE:Nat→AV}(h:Gf l tE=true):DrawOk2 l tE:=by
  have main:∀ j oj,l[j]?=some oj→((oj.after.toList.all λ e=> !Region.binds .any e||Nat.blt e.on j)=true∧(!pL oj.op||(l.drop j).all λ o=>match o.dst with|none=>true|some d=> !(Cy oj.op.operands.toList).contains d)=true)∧∀ i oi,l[i]?=some oi→(i==j||
          ((match oi.dst with|none=>true|some d=> !(pU l oj).contains d||HH (xD l []) i j)&&
           (!(mE oi.op&&pL oj.op&&meets (oM tE oi) (oM tE oj))||HH (xD l []) i j)))=true:=by
    intro j oj hj;have hjl:j<l.length:=(Db.1 hj).1;have h1:=qI.1 h j (by simpa using hjl);simp only[hj,aK]at h1;refine⟨h1.1,λ i oi hi=>?_⟩;have hil:i<l.length:=(Db.1 hi).1;have h2:=qI.1 h1.2 i (by simpa using hil);simp only[hi]at h2;exact h2
  refine⟨λ j oj hj e he hb=>?_,λ j oj k ok d hj hk hro hjk hd hm=>?_,λ i j oi oj d hi hj hne hd hl=>?_,λ i j oi oj b hi hj hne hw hr hbi hbj=>?_⟩
  · have:=qI.1 (main j oj hj).1.1 e he
    simp only[hb,lO,iX]at this;exact aR this
  · have hmem:ok∈l.drop j:=aB (i:=k - j) (by rw[dE,show j+(k - j)=k by omega];exact hk)
    have h0:=(main j oj hj).1.2;simp only[hro,lO,iX]at h0;have:=qI.1 h0 ok hmem;simp only[hd]at this;rw[show (Cy oj.op.operands.toList).contains d=true by simpa using hm]at this;cases this
  · have:=(main j oj hj).2 i oi hi
    have hb:(i==j)=false:=by simpa using hne
    simp only[hb,iX,aK,hd]at this;have h1:=this.1;rw[show (pU l oj).contains d=true by simpa using hl]at h1;simpa using h1
  · have:=(main j oj hj).2 i oi hi
    have hb:(i==j)=false:=by simpa using hne
    simp only[hb,iX,aK]at this;have h1:=this.2;rw[hw,hr,Qm hbi hbj]at h1;simpa using h1
section
variable {C:Ctx}{V:Inv C.fr}{R:FuncId→List AV→AV→Prop}
theorem Ni{l:List Oper}{tE:Nat→AV}(D:DrawOk2 l tE){i j:Nat}{oj:Oper}(hj:l[j]?=some oj)(hi:((xD l []).getD j 0).testBit i=true):i<j:=
 wY (X:=(· <j)) (λ k ok hk hok e he hb=>rL (D.back k ok hok e he hb) hk) hj (λ e he hb=>D.back j oj hj e he hb) hi
theorem FJ{l:List Oper}{tE:Nat→AV}(D:DrawOk2 l tE){X:Nat→Prop}(hX:UN l X){i j:Nat}{oi oj:Oper}(hi:l[i]?=some oi)(hj:l[j]?=some oj)(hp:∀ e∈oj.after.toList,Region.binds .any e=true→X e.on)(hnj: ¬ X j)(ho:HH (xD l []) i j=true):X i↔i<j:=by
 simp only[HH,dG]at ho;rcases ho with ho|ho
 ·exact⟨λ _=>Ni D hj ho,λ _=>wY hX hj hp ho⟩
 ·have hlt:=Ni D hi ho;refine⟨λ hXi=>absurd (wY hX hi (λ e he hb=>hX i oi hXi hi e he hb) ho) hnj,λ h=>by omega⟩
structure Chn2(C:Ctx)(l:List Oper)(n:Nat)(h:AH)(t:Nat→AV)(xs:Nat→AV)(hh:Nat→AH)(tt:Nat→Nat→AV)(tb:Nat→Nat→Bool):Prop where
 D:DrawOk2 l (tt l.length)
 step:∀ k o,l[k]?=some o→StepR C (bY C) l o (n+k) (tt k) (hh k) (xs k) (hh (k+1))
 next:∀ k o,l[k]?=some o→tt (k+1)=yO (tt k) o.dst (xs k)
 t0:tt 0=t
 h0:hh 0=h
 new:∀ s,n≤s→h s=none
 tb:∀ b i,tb b i=true↔hh (i+1) b≠hh i b
 nH:NoH C
variable {l:List Oper}{n:Nat}{h:AH}{t xs:Nat→AV}{hh:Nat→AH}{tt:Nat→Nat→AV}{tb:Nat→Nat→Bool}
theorem Chn2.live(Z:Chn2 C l n h t xs hh tt tb){i:Nat}(hi:i<l.length){b:Nat}(hb:b≠n+i)(hn:hh i b=none):hh (i+1) b=none:=by
 have ho:l[i]?=some l[i]:=aA hi;by_cases he:hh (i+1) b=hh i b
 ·rw[he,hn]
 ·exact absurd hn (zO (Z.step i _ ho) b hb he).2
theorem Chn2.fresh(Z:Chn2 C l n h t xs hh tt tb){b:Nat}(hb:n≤b):∀ k,k≤l.length→n+k≤b→hh k b=none
 |0,_,_=>by rw[Z.h0];exact Z.new b hb
 |k+1,hk,hkb=>Z.live (by omega) (by omega) (Z.fresh hb k (by omega) (by omega))
theorem Chn2.still(Z:Chn2 C l n h t xs hh tt tb){b j k:Nat}(hjk:j≤k)(hq:∀ i,j≤i→i<k→tb b i=false):hh k b=hh j b:=
 Aq k hjk λ i h1 h2=>Classical.byContradiction λ hn=>by
  have:=hq i h1 h2;rw[(Z.tb b i).2 hn]at this;cases this
theorem Chn2.at(Z:Chn2 C l n h t xs hh tt tb){j:Nat}{o:Oper}(hj:l[j]?=some o)(hro:pL o.op=true):oM (tt l.length) o=oM (tt j) o:=by
 have hjl:j<l.length:=(Db.1 hj).1;have key:∀ i∈Cy o.op.operands.toList,∀ k,j≤k→k≤l.length→tt k i=tt j i:=by
  intro i hi k
  induction k with
  |zero=>intro h1 _;rw[show j=0 by omega]
  | succ k ih=>
   intro h1 h2;by_cases he:j=k+1
   ·rw[he]
   ·have hk:l[k]?=some l[k]:=aA (by omega);rw[Z.next k _ hk,wF (λ hd=>Z.D.late j o k _ i hj hk hro (by omega) hd hi)];exact ih (by omega) (by omega)
 unfold oM;exact BF _ λ i hi=>by rw[key i hi l.length (by omega) (aC _)]
structure DInv2(C:Ctx)(V:Inv C.fr)(l:List Oper)(n:Nat)(h:AH)(t xs:Nat→AV)(hh:Nat→AH)(tb:Nat→Nat→Bool)(w0:World)(S0:Nat→Prop)(N:Nat)(X:Nat→Bool)(a:Act)(w:World):Prop where
 down:UN l (X · =true)
 bnd:∀ i,X i=true→i<l.length
 H3:∀ k i,X k=true→tb (n+i) k=true→k=i∨X i=true
 sim:∃ S β hX,SimD C V w0 S0 N (λ s=>s<n∨∃ i,X i=true∧s=n+i) (valX X l xs t l.length) hX a w S β∧∀ b,hX b=hh (lastW (λ i=>X i&&tb b i) l.length) b
theorem LX(hC:CtxOk C)(Z:Chn2 C l n h t xs hh tt tb){ops:Array Oper}(hall:ops.toList=l){w0:World}{S0:Nat→Prop}{N:Nat}(hb:uD N l=true){X Y:Nat→Bool}{a:Act}{w:World}(I:DInv2 C V l n h t xs hh tb w0 S0 N X a w){j:Nat}{o:Oper}(hj:l[j]?=some o)
  (hp:∀ e∈o.after.toList,Region.binds .any e=true→X e.on=true) (hnj:X j=false) (hYj:Y j=true) (hY:∀ i,i≠j→Y i=X i) {K:Act→World→Prop} {Q:Exit→Act→World→Prop} (hK:∀ a' w',DInv2 C V l n h t xs hh tb w0 S0 N Y a' w'→K a' w'):
  if Region.wanted o (yielded ops a.tmps)then o.wp C.P a w K Q∨(o.asks C.P a w∧LetsOut Q)else K (a.put o.dst undef) w:=by
 obtain⟨S,β,hX,M,H1⟩:=I.sim;have hjl:j<l.length:=(Db.1 hj).1;have hnj': ¬ (X j=true):=by rw[hnj];simp
 have hs:β (n+j)=none:=by
  cases hq:β (n+j)with
  |none=>rfl
  | some loc=>
   rcases M.dom _ _ hq with h|⟨i,hi,he⟩
   ·omega
   ·have:i=j:=by omega
    subst this;rw[hnj]at hi;cases hi
 have slot:∀ tmp∈pU l o,valX X l xs t l.length tmp=tt j tmp:=by
  intro tmp htmp;rw[Dg Z.t0 (λ k o hk=>Z.next k o hk) j (by omega), ←Sh tmp (by omega)];refine tA _ λ i oi hi hoi hd=>?_;by_cases he:i=j
  ·subst he;rw[hnj];simp
  ·have:=FJ Z.D I.down hoi hj hp hnj' (Z.D.slot i j oi o tmp hoi hj he hd htmp);by_cases hlt:i<j
   ·rw[this.2 hlt];simp[hlt]
   ·have hx: ¬ (X i=true):=λ h=>hlt (this.1 h);simp only[hlt,decide_false];simpa using hx
 have sites:oM (valX X l xs t l.length) o=oM (tt j) o:=by
  unfold oM;exact BF _ λ i hi=>by rw[slot i (by simp only[pU,al_List_mem_append];exact .inl (.inr hi))]
 have ag:pL o.op=true→∀ b loc,β b=some loc→b∈oM (tt j) o→hh j b≠none→hX b=hh j b∧∀ k,X k=true→tb b k=true→k<j:=by
  intro hr b loc hbl hbs hbn;have wiff:∀ k,k<l.length→k≠j→tb b k=true→(X k=true↔k<j):=by
   intro k hk hne htk;have hok:l[k]?=some l[k]:=aA hk;by_cases hbk:b=n+k
   ·have hkj:k<j:=Nat.lt_of_not_le λ hle=>hbn (Z.fresh (by omega) j (by omega) (by omega));refine⟨λ _=>hkj,λ _=>?_⟩;rcases M.dom _ _ hbl with h|⟨i,hi,he⟩
    ·omega
    ·have:i=k:=by omega
     subst this;exact hi
   ·have hn:=(Z.tb b k).1 htk;have hwk:=(zO (Z.step k _ hok) b hbk hn).1;have hsk:=LW (Z.step k _ hok) b hbk hn;exact FJ Z.D I.down hok hj hp hnj' (Z.D.mem k j _ o b hok hj hne hwk hr (by rw[Z.at hok (vG _ hwk)];exact hsk) (by rw[Z.at hj hr];exact hbs))
  have lt:∀ k,X k=true→tb b k=true→k<j:=λ k hk htk=>(wiff k (I.bnd k hk) (λ e=>by subst e;exact hnj' hk) htk).1 hk;refine⟨?_,lt⟩;rw[H1 b];have hple:lastW (λ i=>X i&&tb b i) l.length≤j:=rU _ _ λ i hi hw=>by
   simp only[aK]at hw;exact lt i hw.1 hw.2
  refine (Z.still hple λ i h1 h2=>?_).symm
  cases hti:tb b i with
  |false=>rfl
  |true=>
   have hXi:=(wiff i (by omega) (by omega) hti).2 h2;have:=wZ (W:=λ i=>X i&&tb b i) l.length i (by omega) (by simp[hXi,hti]);omega
 have hag:pL o.op=true→Ah (UM (oM (valX X l xs t l.length) o) β) (hh j) hX:=by
  intro hr b loc hbl hne;have hbl:(if b∈oM (valX X l xs t l.length) o then β b else none)=some loc:=hbl;split at hbl
  ·rename_i hm;rw[sites]at hm;exact (ag hr b loc hbl hm hne).1
  ·cases hbl
 obtain⟨h2,st,hrel⟩:=Nh M (Z.step j o hj) slot hag;have turn:∀ b,b≠n+j→(hh (j+1) b≠hh j b∨h2 b≠hX b)→(∃ loc,β b=some loc)∧hX b=hh j b∧∀ k,X k=true→tb b k=true→k<j:=by
  intro b hbj hc;obtain⟨q1,q2,loc,q3⟩:=hrel.2 b hbj hc;have q3:(if b∈oM (valX X l xs t l.length) o then β b else none)=some loc:=q3;split at q3
  ·rename_i hm;rw[sites]at hm;exact⟨⟨loc,q3⟩,ag (vG _ q1) b loc q3 hm q2⟩
  ·cases q3
 refine wI hC M hs hall st (vJ hb (aB hj)) (λ i pol d _ hd=>AN hb i d hd) λ a' w' S' β' M'=>hK a' w' ?_;have XY:∀ i,Y i=true↔X i=true∨i=j:=λ i=>by
  by_cases he:i=j
  ·subst he;simp[hYj]
  ·rw[hY i he];simp[he]
 have hXnone:hX (n+j)=none:=by
  cases hq:hX (n+j)with
  |none=>rfl
  |some blk=>
   obtain⟨loc,_,_,_,hl,_⟩:=M.H.own _ _ hq;rw[hs]at hl;cases hl
 have hjnone:hh j (n+j)=none:=Z.fresh (by omega) j (by omega) (by omega);have h2new:h2 (n+j)=hh (j+1) (n+j):=hrel.1 _ (by rw[hXnone,hjnone]);refine⟨λ k ok hk hok e he hbd=>?_,λ i hi=>?_,λ k i hk htk=>?_,S',β',h2,?_,λ b=>?_⟩
 ·rcases (XY k).1 hk with hk|rfl
  ·exact (XY _).2 (.inl (I.down k ok hk hok e he hbd))
  ·rw[hj]at hok;injection hok with hok;subst hok;exact (XY _).2 (.inl (hp e he hbd))
 ·rcases (XY i).1 hi with hi|rfl
  ·exact I.bnd i hi
  ·exact hjl
 ·rcases (XY k).1 hk with hk|rfl
  ·rcases I.H3 k i hk htk with h|h
   ·exact .inl h
   ·exact .inr ((XY i).2 (.inl h))
  ·by_cases hki:k=i
   ·exact .inl hki
   ·obtain⟨⟨loc,hl⟩,_⟩:=turn (n+i) (by omega) (.inl ((Z.tb _ _).1 htk));rcases M.dom _ _ hl with h|⟨i',hi',he⟩
    ·omega
    ·have:i'=i:=by omega
     subst this;exact .inr ((XY _).2 (.inl hi'))
 ·have hval:yO (valX X l xs t l.length) o.dst (xs j)=valX Y l xs t l.length:=by
   funext tmp;by_cases hd:o.dst=some tmp
   ·rw[hd,yQ];have hlook:tmp∈pU l o:=by simp[pU,hd]
    rw[CM (X:=Y) (j:=j+1) l.length (by omega) λ i oi h1 h2 hoi hdi=>?_]
    ·simp only[valX,hj,hYj,hd,yQ]
    ·have he:i≠j:=by omega
     have:=FJ Z.D I.down hoi hj hp hnj' (Z.D.slot i j oi o tmp hoi hj he hdi hlook)
     cases hx:Y i with
     |false=>rfl
     |true=>
      rcases (XY i).1 hx with h|h
      ·have:=this.1 h;omega
      ·omega
   ·rw[wF hd];refine tA _ λ i oi hi hoi hdi=>?_;by_cases he:i=j
    ·subst he;rw[hj]at hoi;injection hoi with hoi;subst hoi;exact absurd hdi hd
    ·exact (hY i he).symm
  rw[←hval];refine⟨M'.T,M'.H,M'.B,λ y loc hy=>?_,M'.df,M'.sz,M'.G,M'.nw,M'.iv⟩;rcases M'.dom y loc hy with (h|⟨i,hi,he⟩)|h
  ·exact .inl h
  ·exact .inr ⟨i,(XY i).2 (.inl hi),he⟩
  ·exact .inr ⟨j,hYj,h⟩
 ·cases htj:tb b j with
  | true=>
   have hlt:∀ k,X k=true→tb b k=true→k<j:=by
    intro k hk htk;by_cases hbj:b=n+j
    ·subst hbj;rcases I.H3 k j hk htk with h|h
     ·subst h;exact absurd hk hnj'
     ·exact absurd h hnj'
    ·exact (turn b hbj (.inl ((Z.tb _ _).1 htj))).2.2 k hk htk
   have hL:lastW (λ i=>Y i&&tb b i) l.length=j+1:=by
    refine Nat.le_antisymm (rU _ _ λ i hi hwi=>?_) (wZ _ j hjl (by simp[hYj,htj]));simp only[aK]at hwi;rcases (XY i).1 hwi.1 with h|h
    ·have:=hlt i h hwi.2;omega
    ·omega
   rw[hL];by_cases hbj:b=n+j
   ·rw[hbj];exact h2new
   ·exact hrel.1 b (turn b hbj (.inl ((Z.tb _ _).1 htj))).2.1
  | false=>
   have hstill:hh (j+1) b=hh j b:=Classical.byContradiction λ hn=>by
    rw[(Z.tb b j).2 hn]at htj;cases htj
   have hW:(λ i=>Y i&&tb b i)=λ i=>X i&&tb b i:=by
    funext i;by_cases he:i=j
    ·subst he;simp[htj]
    ·rw[hY i he]
   rw[hW, ←H1 b];by_cases hbj:b=n+j
   ·rw[hbj,h2new,hXnone, ←hbj,hstill,hbj,hjnone]
   ·refine Classical.byContradiction λ hn=>?_;have h5:=(turn b hbj (.inr hn)).2.1;exact hn ((hrel.1 b h5).trans (hstill.trans h5.symm))
theorem Df(hC:CtxOk C)(nH:NoH C){w0:World}{S0:Nat→Prop}{N:Nat}{ops:Array Oper}(hb:uD N ops.toList=true){K:ASt→Prop}(hr:kL C (bY C) ops.toList ops.toList 0 ⟨t,h,n⟩ (λ st=>Gf ops.toList st.t=true∧K st))
  {a:Act} {w:World} {S:Nat→Prop} {β:Bt} (M:SimD C V w0 S0 N (· <n) t h a w S β) {Q:Exit→Act→World→Prop} (hQ:∀ st a' w' S' β',K st→SimD C V w0 S0 N (· <st.n) st.t st.h a' w' S' β'→Q .normal a' w'):
  wpAny C.P .any ops Q ops.size (Array.replicate ops.size false) a {w with drawn:=w.drawn+1}:=by
 obtain⟨xs,hh,tt,e1,e2,e3,e4⟩:=FK nH ops.toList 0 t h hr;simp only[bU]at e3 e4;have hnew:∀ s,n≤s→h s=none:=λ s hs=>by
  cases hq:h s with
  |none=>rfl
  |some blk=>
   obtain⟨l,_,_,_,hl,_⟩:=M.H.own s blk hq;have:s<n:=M.dom s l hl;omega
 obtain⟨hd,e4⟩:=e4;obtain⟨tb,htb⟩:∃ tb:Nat→Nat→Bool,∀ b i,tb b i=true↔hh (i+1) b≠hh i b:=⟨λ b i=> @decide _ (Classical.propDecidable (hh (i+1) b≠hh i b)),λ b i=>by simp⟩;have Z:Chn2 C ops.toList n h t xs hh tt tb:=⟨Ht hd,λ k o hk=>(e3 k o hk).1,λ k o hk=>(e3 k o hk).2,e1,e2,hnew,htb,nH⟩;have hm:ops.toList.length=ops.size:=by simp
 have fin:∀ (X:Nat→Bool) (a:Act) (w:World),(∀ i,i<ops.size→X i=true)→DInv2 C V ops.toList n h t xs hh tb w0 S0 N X a w→Q .normal a w:=by
  intro X a w hall I;obtain⟨S,β,hX,M,H1⟩:=I.sim;have hall':∀ i,i<ops.toList.length→X i=true:=λ i hi=>hall i (by rw[←hm];exact hi);refine hQ _ a w S β e4 ?_;have hT:valX X ops.toList xs t ops.toList.length=tt ops.toList.length:=by
   rw[Dg Z.t0 (λ k o hk=>Z.next k o hk) _ (aC _)];funext tmp;exact tA _ λ i o hi _ _=>hall' i hi
  have hH:hX=hh ops.toList.length:=by
   funext b;rw[H1 b];refine (Z.still (CN _ _) λ i h1 h2=>?_).symm
   cases hti:tb b i with
   |false=>rfl
   |true=>
    have:=wZ (W:=λ i=>X i&&tb b i) ops.toList.length i h2 (by simp[hall' i h2,hti]);omega
  rw[←hT, ←hH];refine⟨M.T,M.H,M.B,λ x l hx=>?_,M.df,M.sz,M.G,M.nw,M.iv⟩;show x<n+ops.toList.length;rcases M.dom x l hx with h|⟨i,hi,he⟩
  ·omega
  ·have:=I.bnd i hi;omega
 have done:∀ (listed:Array Bool),listed.size=ops.size→Region.ready .any ops listed=[]→∀ i,i<ops.size→listed.getD i false=true:=by
  intro listed hsz hnil i hi
  induction i using Nat.strongRecOn with
  | _ i ih=>
   cases hq:listed.getD i false with
   |true=>rfl
   | false=>
    exfalso;have hmem:i∈Region.ready .any ops listed:=by
     refine mem_ready.2 ⟨?_,ops[i],aS hi,λ e he hbd=>?_⟩
     ·have:i<listed.size:=by omega
      rw[aJ,aS this]at hq⊢;exact hq
     ·have:=Z.D.back i ops[i] (by rw[bJ,aS hi]) e (by simpa using he) hbd;exact ih e.on this (by omega)
    rw[hnil]at hmem;cases hmem
 have main:∀ (fuel:Nat) (listed:Array Bool) (a:Act) (w:World),listed.size=ops.size→cntX (λ i=>listed.getD i false) ops.size=fuel→DInv2 C V ops.toList n h t xs hh tb w0 S0 N (λ i=>listed.getD i false) a w→wpAny C.P .any ops Q fuel listed a w:=by
  intro fuel
  induction fuel with
  | zero=>
   intro listed a w hsz hc I;have hall:=Dh _ hc;refine⟨?_,fin _ a w hall I⟩
   cases hr:Region.ready .any ops listed with
   |nil=>rfl
   |cons i rest=>
    exfalso;have hmem:i∈Region.ready .any ops listed:=by rw[hr];exact bO
    obtain⟨h1,o,ho,_⟩:=mem_ready.1 hmem;have hi:i<ops.size:=(CI.1 ho).1;have h2:=hall i hi;have:i<listed.size:=by omega
    rw[aJ,aS this]at h1 h2;simp only[gH]at h1 h2
    rw[h1]at h2;cases h2
  | succ fuel ih=>
   intro listed a w hsz hc I;refine⟨λ hnil=>fin _ a w (done listed hsz hnil) I,λ j hj=>?_⟩;obtain⟨h1,o,ho,hpre⟩:=mem_ready.1 hj;have hjl:j<ops.size:=(CI.1 ho).1;have hjs:j<listed.size:=by omega
   have hoj:ops.toList[j]?=some o:=by rw[bJ];exact ho
   have hXj:listed.getD j false=false:=by
    rw[aJ,aS hjs]at h1⊢;exact h1
   have hYj:(listed.setIfInBounds j true).getD j false=true:=by
    rw[aJ,cZ hjs];rfl
   have hY:∀ i,i≠j→(listed.setIfInBounds j true).getD i false=listed.getD i false:=λ i hi=>by
    rw[aJ,aJ,cX (Ne.symm hi)]
   unfold wpOp;simp only[ho];refine LX (X:=λ i=>listed.getD i false) (Y:=λ i=>(listed.setIfInBounds j true).getD i false) hC Z rfl hb I hoj (λ e he hbd=>hpre e (by simpa using he) hbd) hXj hYj hY λ a' w' I'=>?_;refine ih _ a' w' (by simp[hsz]) ?_ I';have:=FL (X:=λ i=>listed.getD i false) (Y:=λ i=>(listed.setIfInBounds j true).getD i false) hXj hYj hY ops.size hjl;omega
 have hfalse:∀ i,(Array.replicate ops.size false).getD i false=false:=λ i=>by
  rw[aJ];by_cases hi:i<ops.size
  ·simp[hi]
  ·rw[gV (by simpa using hi)];rfl
 have hXf:(λ i=>(Array.replicate ops.size false).getD i false)=λ _=>false:=funext hfalse;have hcnt:∀ k,cntX (λ i=>(Array.replicate ops.size false).getD i false) k=k:=by
  rw[hXf];intro k
  induction k with
  |zero=>rfl
  |succ k ih=>simp only[cntX,ih];omega
 refine main ops.size _ a _ (by simp) (hcnt _) ⟨λ j oj hj=>?_,λ i hi=>?_,λ k j hk=>?_,S,β,h,?_,λ s=>?_⟩
 ·have:=(hfalse j).symm.trans hj;cases this
 ·have:=(hfalse i).symm.trans hi;cases this
 ·have:=(hfalse k).symm.trans hk;cases this
 ·have hv:valX (λ i=>(Array.replicate ops.size false).getD i false) ops.toList xs t ops.toList.length=t:=by
   have:∀ k,valX (λ i=>(Array.replicate ops.size false).getD i false) ops.toList xs t k=t:=by
    intro k
    induction k with
    |zero=>rfl
    |succ k ih=>
     rw[hXf]at ih⊢;simp only[valX];split<;>exact ih
   exact this _
  rw[hv];have M':=M.drawn (w.drawn+1);exact⟨M'.T,M'.H,M'.B,λ x l hx=>.inl (M'.dom x l hx),M'.df,M'.sz,M'.G,M'.nw,M'.iv⟩
 ·have:lastW (λ i=>(Array.replicate ops.size false).getD i false&&tb s i) ops.toList.length=0:=by
   refine Nat.le_zero.1 (rU _ _ λ i _ hw=>?_);have h1:=hfalse i;rw[h1]at hw;simp at hw
  rw[this,e2]
end
def tQ(N:Nat):Code→Bool
 | .region _ ops dr=>uD N ops.toList&&(!dr||HJ ops.toList||HI ops.toList)
 | .seq a b=>tQ N a&&tQ N b
 | .cond _ a b=>tQ N a&&tQ N b
 | .block _ b=>tQ N b
 | .loop b=>tQ N b
 |_=>true
def ES:AEx→Exit
 | .normal=>.normal
 | .exit i=>.exit i
 | .ret=>.ret
def Aft(C:Ctx)(V:Inv C.fr)(w0:World)(S0:Nat→Prop)(N:Nat)(Q:AEx→ASt→Prop)(e:Exit)(a:Act)(w:World):Prop:=∃ e' st S β,e=ES e'∧Q e' st∧SimD C V w0 S0 N (· <st.n) st.t st.h a w S β
section
variable {C:Ctx}{V:Inv C.fr}{N:Nat}{w0:World}{S0:Nat→Prop}
theorem oY(σ:Nat→Nat):∀ (cs:List AV) (i:Nat),(Bz σ cs)[i]?=(cs[i]?).map (uK σ)
 |[],i=>by simp[Bz]
 |c::cs,0=>by simp[Bz]
 |c::cs,i+1=>by simp[Bz,oY σ cs i]
theorem sR(σ:Nat→Nat):∀ (cs:List AV),(Bz σ cs).length=cs.length
 |[]=>rfl
 |c::cs=>by simp[Bz,sR σ cs]
theorem rQ(n:Nat):∀ (cs:List AV),pK n cs=true→∀ (i:Nat) a,cs[i]?=some a→mW n a=true
 |[],_,i,a,h=>by simp at h
 | c::cs,hb,i,a,hi=>by
  simp only[pK]at hb;split at hb
  ·rename_i hc
   cases i with
   |zero=>simp at hi;subst hi;exact hc
   |succ i=>exact rQ n cs hb i a (by simpa using hi)
  ·cases hb
theorem ET:∀ (cs:List AV) (i:Nat) a,cs[i]?=some a→SizeOf.sizeOf a<SizeOf.sizeOf cs
 |[],i,a,h=>by simp at h
 |c::cs,0,a,h=>by simp at h;subst h;simp;omega
 |c::cs,i+1,a,h=>by
  have:=ET cs i a (by simpa using h);simp;omega
theorem BC{S:Nat→Prop}{w:World}{β:Bt}{n:Nat}{σ:Nat→Nat}:∀ (k:Nat) (a:AV) (v:Value),SizeOf.sizeOf a≤k→mW n a=true→Rep S w β (uK σ a) v→Rep S w (λ s=>if s<n then β (σ s)else none) a v:=by
 intro k
 induction k with
 |zero=>intro a v hk;cases a<;>simp at hk
 | succ k ih=>
  intro a v hk hb hr;have site:∀ s l,Nat.blt s n=true→β (σ s)=some l→(λ s=>if s<n then β (σ s)else none) s=some l:=λ s l h1 h2=>by
   have:s<n:=aR h1;simp only[this,kK,h2]
  have list:∀ (cs:List AV) (us:Array Value),SizeOf.sizeOf cs≤k→pK n cs=true→(∀ (i:Nat) a u,(Bz σ cs)[i]?=some a→us[i]?=some u→Rep S w β a u)→∀ (i:Nat) a u,cs[i]?=some a→us[i]?=some u→Rep S w (λ s=>if s<n then β (σ s)else none) a u:=by
   intro cs us hs hb h i a u p q;have:=ET cs i a p;exact ih a u (by omega) (rQ n cs hb i a p) (h i (uK σ a) u (by rw[oY,p];rfl) q)
  cases a with
  |v x=>
   simp only[uK]at hr;cases hr
   exact .v _
  |agg cs=>
   simp only[uK]at hr
   cases hr with
   |agg _ vs hl h1 h=>exact .agg cs vs (by rw[←sR σ cs];exact hl) h1 (list cs vs (by simp at hk;omega) (by simpa [mW]using hb) h)
  |tup cs=>
   simp only[uK]at hr
   cases hr with
   |tup _ vs hl h=>exact .tup cs vs (by rw[←sR σ cs];exact hl) (list cs vs (by simp at hk;omega) (by simpa [mW]using hb) h)
  |sl rs rows clip=>
   simp only[uK]at hr
   cases hr with
   |sl _ _ _ A c b o u hc hm hcl hrs hA hw h1 hr=>exact .sl rs rows clip A c b o u hc hm hcl hrs hA hw h1 hr
  |dp rs col row=>
   simp only[uK]at hr
   cases hr with
   |dp _ _ _ b o u hrs hb hw h1 hr=>exact .dp rs col row b o u hrs hb hw h1 hr
  |ptr s c=>
   simp only[uK]at hr
   cases hr with
   |ptr _ _ l hl=>exact .ptr s c l (site s l hb hl)
  |ptr2 s r c=>
   simp only[uK]at hr
   cases hr with
   |ptr2 _ _ _ l hl=>exact .ptr2 s r c l (site s l hb hl)
  |osl s lo len clip=>
   simp only[uK]at hr
   cases hr with
   |osl _ _ _ _ l A c hl hc hm hcl hA cs e fr hb' room=>exact .osl s lo len clip l A c (site s l hb hl) hc hm hcl hA cs e fr hb' room
  | clo f a b=>
   simp only[uK]at hr;simp only[mW]at hb;split at hb
   ·rename_i ha
    cases hr with
    |clo _ _ _ vs us hl h hl' h'=>exact .clo f a b vs us (by rw[←sR σ a];exact hl) (list a vs (by simp at hk;omega) ha h) (by rw[←sR σ b];exact hl') (list b us (by simp at hk;omega) hb h')
   ·cases hb
  |opt g x=>
   simp only[uK]at hr
   cases hr with
   |optT _ _ _ hg h=>exact .optT g x v hg (ih x v (by simp at hk;omega) (by simpa [mW]using hb) h)
   |optF _ _ hg=>exact .optF g x hg
  |any=>exact .any v
theorem oZ{st st':ASt}{σ:Nat→Nat}(W:Weak st st' σ)(hf:keepB C.fr σ st'.n=true){a:Act}{w:World}{S:Nat→Prop}{β:Bt}(M:SimD C V w0 S0 N (· <st.n) st.t st.h a w S β):SimD C V w0 S0 N (· <st'.n) st'.t st'.h a w S (λ s=>if s<st'.n then β (σ s)else none):=by
 refine⟨λ i=>?_,⟨λ s blk hs=>?_,λ s s' l l' h1 h2 e1 e2 hb=>?_,M.H.lt,M.H.big⟩,M.B,λ x l hx=>?_,M.df,M.sz,M.G,M.nw,V.weak M.iv hf⟩
 ·rcases W.t i with h|⟨h,hb⟩
  ·rw[h];exact .any _
  ·have:=M.T i;rw[h]at this;exact BC _ _ _ (aC _) hb this
 ·obtain⟨h1,h2,h3⟩:=W.h s blk hs;obtain⟨l,cs,e,fr,k1,k2,k3,k4,k5,k6⟩:=M.H.own _ _ h2;refine⟨l,cs,e,fr,by simp only[h1,kK];exact k1,k2,k3,k4,k5,?_⟩
  cases blk with
  |box cells=>
   intro j a hj;obtain⟨u,q1,q2,q3⟩:=k6 j (uK σ a) (by rw[oY,hj];rfl)
   exact⟨u,q1,q2,BC _ _ _ (aC _) (rQ _ cells (by simpa [tC]using h3) j a hj) q3⟩
  |arr rows rs=>exact k6
  |row cells=>
   refine⟨k6.1,λ j a hj=>?_⟩;obtain⟨u,q1,q2,q3⟩:=k6.2 j (uK σ a) (by rw[oY,hj];rfl);exact⟨u,q1,q2,BC _ _ _ (aC _) (rQ _ cells (by simpa [tC]using h3) j a hj) q3⟩
 ·have get:∀ s l,st'.h s≠none→(if s<st'.n then β (σ s)else none)=some l→st.h (σ s)≠none∧β (σ s)=some l:=by
   intro s l hs hl
   cases hq:st'.h s with
   |none=>exact absurd hq hs
   |some blk=>
    obtain⟨h1,h2,h3⟩:=W.h s blk hq;rw[if_pos h1]at hl;exact⟨by rw[h2];simp,hl⟩
  obtain⟨a1,a2⟩:=get s l h1 e1;obtain⟨b1,b2⟩:=get s' l' h2 e2;exact W.inj s s' h1 h2 (M.H.inj _ _ _ _ a1 b1 a2 b2 hb)
 ·show x<st'.n;by_cases h:x<st'.n
  ·exact h
  ·simp only[h,gZ]at hx;cases hx
theorem FH{fz:Fz}{S S':Nat→Prop}{w:World}{β:Bt}(hS:∀ b,S b→S' b)
  (hz:∀ x rs rows,fz=some (x,rs,rows)→∀ l,β x=some l→S' l.blk∧∃ cs e fr,w.heap[l.blk]?=some (.cells cs e fr)∧Ai S w β l cs (.arr rows rs)):
  ∀ {a b:AV} {v:Value},LeZ fz a b→Rep S w β a v→Rep S' w β b v:=by
 intro a b v hab
 induction hab generalizing v with
 |refl a=>intro h;exact h.mono hS (Evo.refl _ _) (Jk.refl _)
 |any a=>intro _;exact .any _
 | nil rs c=>
  intro h
  cases h with
  |sl _ _ _ A c0 b o u hc hm hcl hrs hA hw h1 hr=>
   exact .sl rs [] c A c0 b o u hc hm (λ _=>hcl rfl) (λ _ h=>by cases h) (λ h=>absurd h (gX 0)) (λ i row j a h=>by simp at h) h1 λ i row j a h=>by simp at h
 |emp rs A k c hk hc=>
  intro h;cases kW h
  exact .sl rs [] c A k 0 0 (λ _ _=>.bool false) (aF _) hk hc (λ _ h=>by cases h) (λ h=>absurd h (gX 0)) (λ i row j a h=>by simp at h) (λ _ _=>rfl) λ i row j a h=>by simp at h
 | clip rs rows=>
  intro h
  cases h with
  |sl _ _ _ A c0 b o u hc hm hcl hrs hA hw h1 hr=>
   exact (Rep.sl rs rows false A c0 b o u hc hm (λ h=>by cases h) hrs hA hw h1 hr).mono hS (Evo.refl _ _) (Jk.refl _)
 |oclip s lo len=>
  intro h
  cases h with
  |osl _ _ _ _ l A c hl hc hm hcl hA cs e fr hb room=>exact .osl s lo len false l A c hl hc hm (λ h=>by cases h) hA cs e fr hb room
 | frz b rs lo len rows c c' hfz hl hcc=>
  intro h
  cases h with
  | osl _ _ _ _ l A cp hl' hc hm hcl hA cs0 e0 fr0 hb0 room=>
   obtain⟨hSb,cs,e,fr,hb,k1,k2,k3⟩:=hz b rs rows hfz l hl';rw[hb0]at hb;injection hb with hb;injection hb with q1 q2 q3;subst q1;subst q2;subst q3;have hlen:((rows.drop lo).take len).length=len:=by rw[aQ,bA];omega
   have get:∀ (i:Nat) row,((rows.drop lo).take len)[i]?=some row→rows[lo+i]?=some row:=λ i row hi=>by
    have hil:i<len:=by have:=(Db.1 hi).1;omega
    rwa [cS,if_pos hil,dE]at hi
   have key:=Rep.sl (S:=S') (w:=w) (β:=β) rs ((rows.drop lo).take len) c' A cp l.blk (l.base+lo * l.rs) (λ i j=>if (cs0[l.base+(lo+i) * rs+j]?.getD (.bool false)).oneCell'=true then cs0[l.base+(lo+i) * rs+j]?.getD (.bool false)else .bool false)
    (by rw[hlen];exact hc) hm (λ h=>by rw[hlen];exact hcl (hcc h)) (λ row hr=>k2 row (eP (cO hr)))
    (λ h0=>⟨hA (by omega),hSb⟩) (λ i row j a hi hj=>?_) (λ i j=>?_) (λ i row j a hi hj=>?_)
   ·rw[hlen]at key;exact key
   ·obtain⟨u,p1,p2,p3⟩:=k3 (lo+i) row j a (get i row hi) hj;rw[gM hb0,k1,show l.base+lo * rs+i * rs+j=l.base+(lo+i) * rs+j by rw[cD];omega,p1];simp[p2]
   ·split
    ·assumption
    ·rfl
   ·obtain⟨u,p1,p2,p3⟩:=k3 (lo+i) row j a (get i row hi) hj;simp only[p1,gH,p2,kK]
    exact p3.mono hS (Evo.refl _ _) (Jk.refl _)
 | agg cs ds hl h ih=>
  intro hr
  cases hr with
  |agg _ vs hl' h1 h'=>
   refine .agg ds vs (hl ▸ hl') h1 λ i a u p q=>?_;have hi:i<cs.length:=by rw[hl];exact (Db.1 p).1
   exact ih i cs[i] a (aA hi) p (h' i _ u (aA hi) q)
 | tup cs ds hl h ih=>
  intro hr
  cases hr with
  |tup _ vs hl' h'=>
   refine .tup ds vs (hl ▸ hl') λ i a u p q=>?_;have hi:i<cs.length:=by rw[hl];exact (Db.1 p).1
   exact ih i cs[i] a (aA hi) p (h' i _ u (aA hi) q)
theorem Nc{fz:Fz}{S S':Nat→Prop}{w:World}{β:Bt}(hS:∀ b,S b→S' b)
  (hz:∀ x rs rows,fz=some (x,rs,rows)→∀ l,β x=some l→S' l.blk∧∃ cs e fr,w.heap[l.blk]?=some (.cells cs e fr)∧Ai S w β l cs (.arr rows rs))
  {b0 b1:Blk} {l:Loc} {cs:Array Value} (h:LeB fz b0 b1) (k:Ai S w β l cs b0):Ai S' w β l cs b1:=by
 cases h with
 |refl=>exact k.mono hS (Evo.refl _ _) (Jk.refl _)
 |box c d hl hh=>
  intro j a hj;have hi:j<c.length:=by rw[hl];exact (Db.1 hj).1
  obtain⟨u,p1,p2,p3⟩:=k j c[j] (aA hi)
  exact⟨u,p1,p2,FH hS hz (hh j _ a (aA hi) hj) p3⟩
 |row c d hl hh=>
  refine⟨k.1,λ j a hj=>?_⟩;have hi:j<c.length:=by rw[hl];exact (Db.1 hj).1
  obtain⟨u,p1,p2,p3⟩:=k.2 j c[j] (aA hi)
  exact⟨u,p1,p2,FH hS hz (hh j _ a (aA hi) hj) p3⟩
 |toRow c=>
  refine⟨k.1,λ j a hj=>?_⟩;obtain⟨u,p1,p2,p3⟩:=k.2.2 j [a] 0 a (by rw[bH,hj];rfl) rfl;rw[jF,iH]at p1
  exact⟨u,p1,p2,p3.mono hS (Evo.refl _ _) (λ s l x=>by cases x)⟩
 | toArr c hc=>
  refine⟨k.1,λ row hr=>?_,λ i row j a hi hj=>?_⟩
  ·obtain⟨x,_,rfl⟩:=rK.1 hr;rfl
  ·rw[bH]at hi;obtain⟨x,hx,rfl⟩:=EL.1 hi
   cases j with
   |zero=>
    simp only[cM,Option.some.injEq]at hj;subst hj;obtain⟨u,p1,p2,p3⟩:=k.2 i x hx
    exact⟨u,by rw[jF,iH];exact p1,p2,(lM p3 (hc x (aB hx)) noB).mono hS (Evo.refl _ _) (Jk.refl _)⟩
   |succ j=>simp at hj
theorem Ghost.old{st st':ASt}{fz:Fz}(hg:Ghost st st' fz)(s:Nat)(h:st'.h s≠none):st.h s≠none:=by
 cases hq:st'.h s with
 |none=>exact absurd hq h
 |some blk=>obtain⟨_,blk0,h0,_⟩:=hg.h s blk hq;rw[h0];simp
theorem Jp{st st':ASt}{fz:Fz}(hg:Ghost st st' fz){a:Act}{w:World}{S:Nat→Prop}{β:Bt}(M:SimD C V w0 S0 N (· <st.n) st.t st.h a w S β):∃ S',SimD C V w0 S0 N (· <st'.n) st'.t st'.h a w S' β:=by
 cases fz with
 |none=>
  have hz:∀ x rs rows,(none:Fz)=some (x,rs,rows)→∀ l,β x=some l→S l.blk∧∃ cs e fr,w.heap[l.blk]?=some (.cells cs e fr)∧Ai S w β l cs (.arr rows rs):=λ _ _ _ h=>by cases h
  refine⟨S,λ i=>FH (λ _ h=>h) hz (hg.t i) (M.T i),⟨λ s blk hs=>?_,λ s s' l l' h1 h2=>M.H.inj s s' l l' (hg.old s h1) (hg.old s' h2),M.H.lt,M.H.big⟩,M.B,by rw[hg.n];exact M.dom,M.df,M.sz,M.G,M.nw,M.iv⟩;obtain⟨_,blk0,h0,hb⟩:=hg.h s blk hs;obtain⟨l,cs,e,fr,k1,k2,k3,k4,k5,k6⟩:=M.H.own s blk0 h0
  exact⟨l,cs,e,fr,k1,k2,k3,k4,k5,Nc (λ _ h=>h) hz hb k6⟩
 | some z=>
  obtain⟨x,rs,rows⟩:=z;have hx:=hg.b x rs rows rfl;obtain⟨lx,csx,ex,frx,x1,x2,x3,x4,x5,x6⟩:=M.H.own x _ hx;have hS:∀ b,S b→S b∨b=lx.blk:=λ _ h=>.inl h;have hz:∀ y rs' rows',some (x,rs,rows)=some (y,rs',rows')→∀ l,β y=some l→(S l.blk∨l.blk=lx.blk)∧∃ cs e fr,w.heap[l.blk]?=some (.cells cs e fr)∧Ai S w β l cs (.arr rows' rs'):=λ y rs' rows' h l hl=>by
   simp only[Option.some.injEq,Prod.mk.injEq]at h;obtain⟨rfl,rfl,rfl⟩:=h;rw[x1]at hl;injection hl with hl;subst hl;exact⟨.inr rfl,csx,ex,frx,x2,x6⟩
  refine⟨λ b=>S b∨b=lx.blk,λ i=>FH hS hz (hg.t i) (M.T i),⟨λ s blk hs=>?_,λ s s' l l' h1 h2=>M.H.inj s s' l l' (hg.old s h1) (hg.old s' h2),λ b hb=>hb.elim (M.H.lt b) λ e=>e ▸ fI x2,M.H.big⟩,M.B,by rw[hg.n];exact M.dom,M.df,M.sz,λ g cells hgc=>(M.G g cells hgc).mono hS (Evo.refl _ _) (Jk.refl _),λ b hb=>hb.elim (M.nw b) λ e=>.inr (e ▸ x4),V.frz M.iv x1⟩;obtain⟨hne,blk0,h0,hb⟩:=hg.h s blk hs;obtain⟨l,cs,e,fr,k1,k2,k3,k4,k5,k6⟩:=M.H.own s blk0 h0;refine⟨l,cs,e,fr,k1,k2,k3,k4,λ h=>h.elim k5 λ q=>?_,Nc hS hz hb k6⟩;exact hne x rs rows rfl (M.H.inj s x l lx (by rw[h0];simp) (by rw[hx];simp) k1 x1 q)
theorem mV{st st':ASt}(hg:Ghosts st st'):∀ {a:Act} {w:World} {S:Nat→Prop} {β:Bt},SimD C V w0 S0 N (· <st.n) st.t st.h a w S β→∃ S',SimD C V w0 S0 N (· <st'.n) st'.t st'.h a w S' β:=by
 induction hg with
 |refl=>intro a w S β M;exact⟨S,M⟩
 |step fz h k ih=>intro a w S β M;obtain⟨S',M'⟩:=Jp h M;exact ih M'
theorem CtxOk.noH(h:CtxOk C):CtxOk C.noH:=⟨h.ty,h.mixed,λ _ _ _ _ _ h=>h.elim⟩
theorem SimD.noH{D:Nat→Prop}{t:Nat→AV}{h:AH}{a:Act}{w:World}{S:Nat→Prop}{β:Bt}(M:SimD C V w0 S0 N D t h a w S β):SimD C.noH V w0 S0 N D t h a w S β:=⟨M.T,M.H,M.B,M.dom,M.df,M.sz,M.G,M.nw,M.iv⟩
theorem SimD.ofNoH{D:Nat→Prop}{t:Nat→AV}{h:AH}{a:Act}{w:World}{S:Nat→Prop}{β:Bt}(M:SimD C.noH V w0 S0 N D t h a w S β):SimD C V w0 S0 N D t h a w S β:=⟨M.T,M.H,M.B,M.dom,M.df,M.sz,M.G,M.nw,M.iv⟩
theorem BD(hC:CtxOk C)(nH:NoH C){ops:Array Oper}(hb:uD N ops.toList=true){K:ASt→Prop}{Q:Exit→Act→World→Prop}{n:Nat}(hQ:∀ st a' w' S' β',K st→SimD C V w0 S0 N (· <st.n) st.t st.h a' w' S' β'→Q .normal a' w'):
  ∀ (fuel:Nat) (listed:Array Bool) (t:Nat→AV) (h:AH) (a:Act) (w:World) (S:Nat→Prop) (β:Bt),listed.size=ops.size→Tm C (bY C) ops K fuel listed ⟨t,h,n⟩→SimD C V w0 S0 N (λ s=>s<n∨∃ i,listed.getD i false=true∧s=n+i) t h a w S β→wpAny C.P .any ops Q fuel listed a w
 | 0,listed,t,h,a,w,S,β,hsz,hr,M=>by
  refine⟨hr.1,hQ _ a w S β hr.2 ⟨M.T,M.H,M.B,λ y l hy=>?_,M.df,M.sz,M.G,M.nw,M.iv⟩⟩;show y<n+ops.size;rcases M.dom y l hy with h|⟨i,hi,rfl⟩
  ·omega
  ·rcases al_Nat_lt_or_ge i listed.size with k|k
   ·omega
   ·rw[aJ,gV k]at hi;cases hi
 | fuel+1,listed,t,h,a,w,S,β,hsz,hr,M=>by
  refine⟨λ hn=>absurd hn hr.1,λ i hi=>?_⟩;have hall:∀ (l:List Nat),forL (Ve C (bY C) ops (Tm C (bY C) ops K fuel) listed t h n) l→∀ i∈l,Ve C (bY C) ops (Tm C (bY C) ops K fuel) listed t h n i:=by
   intro l
   induction l with
   |nil=>intro _ i hi;cases hi
   |cons x l ih=>
    intro hl i hi;rcases al_List_mem_cons.1 hi with rfl|hi
    ·exact hl.1
    ·exact ih hl.2 i hi
  have h1:=hall _ hr.2 i hi;obtain⟨k1,o,ho,_⟩:=mem_ready.1 hi;have hil:i<listed.size:=by have:=(CI.1 ho).1;omega
  have hni:listed.getD i false=false:=by
   rw[aJ,aS hil]at k1⊢;exact k1
  have hoi:ops.toList[i]?=some o:=by rw[bJ];exact ho
  have hmem:o∈ops.toList:=aB hoi;have hs:β (n+i)=none:=by
   cases hq:β (n+i)with
   |none=>rfl
   | some l=>
    rcases M.dom _ _ hq with h|⟨j,hj,he⟩
    ·omega
    ·have:j=i:=by omega
     subst this;rw[hni]at hj;cases hj
  simp only[Ve,ho]at h1;obtain⟨x,h',e1,e2⟩:=(step_inv h1).resolve_right λ⟨_,f,args,Post,_,hH,_⟩=>nH _ _ _ _ _ hH;unfold wpOp;simp only[ho];refine wI hC M hs rfl e1 (vJ hb hmem) (λ i pol d _ hd=>AN hb i d hd) λ a' w' S' β' M'=>?_;refine BD hC nH hb hQ fuel _ _ h' a' w' S' β' (by simp[hsz]) e2 ⟨M'.T,M'.H,M'.B,λ y l hy=>?_,M'.df,M'.sz,M'.G,M'.nw,M'.iv⟩;have hset:∀ j,(listed.setIfInBounds i true).getD j false=true↔listed.getD j false=true∨j=i:=λ j=>by
   by_cases hj:j=i
   ·subst hj;rw[aJ,cZ hil];simp
   ·rw[aJ,cX (Ne.symm hj), ←aJ];simp[hj]
  rcases M'.dom y l hy with (h|⟨j,hj,he⟩)|h
  ·exact .inl h
  ·exact .inr ⟨j,(hset j).2 (.inl hj),he⟩
  ·exact .inr ⟨i,(hset i).2 (.inr rfl),h⟩
theorem BE(hC:CtxOk C):∀ (c:Code),tQ N c=true→∀ (st:ASt) (Q:AEx→ASt→Prop),gC C (bY C) c st Q→∀ (a:Act) (w:World) (S:Nat→Prop) (β:Bt),SimD C V w0 S0 N (· <st.n) st.t st.h a w S β→
  c.wp C.P (Aft C V w0 S0 N Q) a w:=by
 intro c
 induction c with
 |skip=>intro _ st Q hq a w S β M;exact wp_skip ⟨.normal,st,S,β,rfl,hq,M⟩
 |label l=>intro _ st Q hq a w S β M;exact wp_label ⟨.normal,st,S,β,rfl,hq,M⟩
 |exit id=>intro _ st Q hq a w S β M;exact wp_exit ⟨.exit id,st,S,β,rfl,hq,M⟩
 |ret=>intro _ st Q hq a w S β M;exact wp_ret ⟨.ret,st,S,β,rfl,hq,M⟩
 | region id ops dr=>
  intro hk st Q hq a w S β M;simp only[tQ,aK]at hk;obtain⟨t,h,n⟩:=st;simp only[gC]at hq
  cases dr with
  |false=>
   simp only[sM]at hq;refine wp_region ?_;have:=Di (Q:=Aft C V w0 S0 N Q) (K:=Q .normal) hC (ops:=ops) rfl hk.1 ops.toList 0 t h a w S β rfl hq M (λ st' a' w' S' β' hk' M'=>⟨.normal,st',S',β',rfl,hk',M'⟩);rw[show List.range' 0 ops.toList.length=List.range ops.size by rw[nD,dO]]at this
   exact this
  | true=>
   refine wp_region_any hC.mixed ?_;simp only[lP]at hq
   cases hl:HJ ops.toList with
   |true=>
    rw[hl]at hq;rcases hq with hq|⟨_,hq⟩
    rotate_left
    ·exact Df (C:=C.noH) (V:=V) hC.noH (λ _ _ _ _ _ h=>h) hk.1 hq (SimD.noH M) (λ st' a' w' S' β' hk' M'=>⟨.normal,st',S',β',rfl,hk',SimD.ofNoH M'⟩)
    have M':=M.drawn (w.drawn+1)
    refine BD (C:=C.noH) (V:=V) hC.noH (λ _ _ _ _ _ h=>h) hk.1 (λ st' a' w' S' β' hk' M'=>⟨.normal,st',S',β',rfl,hk',SimD.ofNoH M'⟩) ops.size _ t h a _ S β (by simp) hq ⟨M'.T,M'.H,M'.B,λ y l hy=>.inl (M'.dom y l hy),M'.df,M'.sz,M'.G,M'.nw,M'.iv⟩
   |false=>
   rw[hl]at hq;have hd:HI ops.toList=true:=by simp only[HJ,dT,oV]at hl;exact hl.2
   exact EW (C:=C.noH) (V:=V) hC.noH (λ _ _ _ _ _ h=>h) hk.1 hd hq (SimD.noH M) (λ st' a' w' S' β' hk' M'=>⟨.normal,st',S',β',rfl,hk',SimD.ofNoH M'⟩)
 | seq x y ihx ihy=>
  intro hk st Q hq a w S β M;simp only[tQ,aK]at hk;simp only[gC]at hq;rcases hq with hq|hq|hq
  ·refine wp_seq (wp_mono (ihx hk.1 st _ hq a w S β M) ?_);rintro e a' w' ⟨e',st',S',β',rfl,h1,h2⟩
   cases e' with
   |normal=>exact ihy hk.2 st' Q h1 a' w' S' β' h2
   |exit i=>exact⟨.exit i,st',S',β',rfl,h1,h2⟩
   |ret=>exact⟨.ret,st',S',β',rfl,h1,h2⟩
  ·refine wp_seq (wp_mono (ihx hk.1 st _ hq a w S β M) ?_);rintro e a' w' ⟨e',st',S',β',rfl,h1,h2⟩
   cases e' with
   |normal=>
    obtain⟨st2,g1,g2⟩:=h1;obtain⟨S2,h3⟩:=mV g1 h2
    exact ihy hk.2 st2 Q g2 a' w' S2 β' h3
   |exit i=>exact⟨.exit i,st',S',β',rfl,h1,h2⟩
   |ret=>exact⟨.ret,st',S',β',rfl,h1,h2⟩
  ·refine wp_seq (wp_mono (ihx hk.1 st _ hq a w S β M) ?_);rintro e a' w' ⟨e',st',S',β',rfl,h1,h2⟩
   cases e' with
   |normal=>
    obtain⟨st2,g1,st3,σ,hW,hf,g2⟩:=h1;obtain⟨S2,h3⟩:=mV g1 h2
    exact ihy hk.2 st3 Q g2 a' w' S2 _ (oZ hW hf h3)
   |exit i=>exact⟨.exit i,st',S',β',rfl,h1,h2⟩
   |ret=>exact⟨.ret,st',S',β',rfl,h1,h2⟩
 | cond c x y ihx ihy=>
  intro hk st Q hq a w S β M;simp only[tQ,aK]at hk;simp only[gC]at hq;split at hq
  ·rename_i b hb;obtain⟨h1,h2⟩:=hq;have hv:=tR M c;rw[hb]at hv;refine wp_cond_split (kW hv) (λ ht=>ihx hk.1 st Q (h1 ht) a w S β M) (λ hf=>ihy hk.2 st Q (h2 hf) a w S β M)
  ·exact hq.elim
 | block id b ih=>
  intro hk st Q hq a w S β M;simp only[tQ]at hk;simp only[gC]at hq;refine wp_block (wp_mono (ih hk st _ hq a w S β M) ?_);rintro e a' w' ⟨e',st',S',β',rfl,h1,h2⟩
  cases e' with
  |normal=>exact⟨.normal,st',S',β',rfl,h1,h2⟩
  |ret=>exact⟨.ret,st',S',β',rfl,h1,h2⟩
  | exit i=>
   show Exit.inBlock id _ (.exit i) a' w';simp only at h1;simp only[Exit.inBlock];by_cases hi:i=id
   ·subst hi;rw[if_pos rfl];rw[show Nat.beq i i=true from mS i]at h1;exact⟨.normal,st',S',β',rfl,h1,h2⟩
   ·rw[if_neg hi];have:Nat.beq i id=false:=by rw[←eI];exact λ e=>hi (aM e)
    rw[this]at h1
    exact⟨.exit i,st',S',β',rfl,h1,h2⟩
 | loop b ih=>
  intro hk st Q hq a w S β M;simp only[tQ]at hk;simp only[gC]at hq;obtain⟨I,μ,st0,σ,hw,hf0,h0,round⟩:=hq;have key:∀ (m:Nat) (st:ASt) (a:Act) (w:World) (S:Nat→Prop) (β:Bt),μ st=m→I st→SimD C V w0 S0 N (· <st.n) st.t st.h a w S β→∀ (fb:Frame) (k:List Item) (cs:List Frame),
    ∃ e a' w',Aft C V w0 S0 N Q e a' w'∧Arrives C.P (lone (fb.at a (.code b:: .inLoop b::k)) cs w) fb k cs e a' w':=by
   intro m
   induction m using Nat.strongRecOn with
   | _ m ihm=>
    intro st a w S β hm hI M fb k cs;obtain⟨e,a₁,w₁,hq,harr⟩:=ih hk st _ (round st hI) a w S β M fb (.inLoop b::k) cs;obtain⟨e',st1,S1,β1,rfl,hq1,M1⟩:=hq
    cases e' with
    |normal=>
     obtain⟨stg,g1,stw,σ',W,hf1,hIw,hlt⟩:=hq1;obtain⟨S1,M1⟩:=mV g1 M1;obtain⟨e₂,a₂,w₂,hq₂,harr₂⟩:=ihm (μ stw) (hm ▸ hlt) stw a₁ w₁ S1 _ rfl hIw (oZ W hf1 M1) fb k cs
     exact⟨e₂,a₂,w₂,hq₂,.of_steps (Steps.trans harr (.one step_inLoop)) harr₂⟩
    |exit id=>exact⟨_,a₁,w₁,⟨.exit id,st1,S1,β1,rfl,hq1,M1⟩,.pass (x:=.inLoop b) rfl (λ _ _=>.inl (by simp[ES])) harr⟩
    |ret=>exact⟨_,a₁,w₁,⟨.ret,st1,S1,β1,rfl,hq1,M1⟩,.pass (x:=.inLoop b) rfl (λ _ _=>.inl (by simp[ES])) harr⟩
  intro fb k cs;obtain⟨e,a',w',hq,harr⟩:=key _ st0 a w S _ rfl h0 (oZ hw hf0 M) fb k cs
  exact⟨e,a',w',hq,.of_steps (.one step_loop) harr⟩
 |_=>intro _ st Q hq;exact hq.elim
def Sub(a b:AV):Prop:=∀ (S:Nat→Prop) (w:World) (v:Value),Rep S w noB a v→Rep S w noB b v
theorem Sub.refl(a:AV):Sub a a:=λ _ _ _ h=>h
def Sg(C:Ctx)(fn:Func)(r:AV)(st:ASt):Prop:=
 ∃ rs,resA C st fn.results.toList=some rs∧jG st.h (Cz rs)∧eM (uJ st.h (Cz rs))=true∧Sub (uJ st.h (Cz rs)) r
def Fin(C:Ctx)(fn:Func)(r:AV):AEx→ASt→Prop
 | .exit _,_=>False
 |_,st=>Sg C fn r st
def UV(tmps:Array Value):ResultVar→Sem Value
 | .tmp t=>pure (tmps.getD t undef)
 | .cell a t=>do loadVar t (←asAddr (tmps.getD a undef))
theorem LU(fn:Func)(tmps:Array Value):results fn tmps=(do let vs←fn.results.mapM (UV tmps);pure (if h:vs.size=1 then vs[0]else .tuple vs)):=rfl
theorem wX{P:Program}{w:World}{tmps:Array Value}(l:List ResultVar)(vs:List Value)(h:(l.mapM (UV tmps)).run P w=.ok vs w)(fn:Func)(hl:fn.results.toList=l):
  (results fn tmps).run P w=.ok (if h:vs.toArray.size=1 then vs.toArray[0]else .tuple vs.toArray) w:=by
 rw[LU,Array.mapM_eq_mapM_toList,hl];simp only[Sem.run_bind,map_eq_pure_bind,Sem.run_pure];rw[h];simp only[Result.andThen_ok,Sem.run_pure]
theorem Hs(hC:CtxOk C){t:Nat→AV}{h:AH}{n:Nat}{a:Act}{w:World}{D:Nat→Prop}{S:Nat→Prop}{β:Bt}(M:SimD C V w0 S0 N D t h a w S β):∀ (l:List ResultVar) (rs:List AV),resA C ⟨t,h,n⟩ l=some rs→
  ∃ vs,(l.mapM (UV a.tmps)).run C.P w=.ok vs w∧RepL S w β rs vs
 |[],rs,hr=>by simp only[resA]at hr;injection hr with hr;subst hr;exact⟨[],rfl,RepL.nil _ _ _⟩
 | .tmp i::l,rs,hr=>by
  simp only[resA]at hr;split at hr
  ·rename_i r hl;injection hr with hr;subst hr;obtain⟨vs,h1,h2⟩:=Hs hC M l r hl;exact⟨a.tmps.getD i undef::vs,by simp only[sN,Sem.run_bind,UV,Sem.run_pure,Result.andThen_ok,h1],RepL.cons (M.T i) h2⟩
  ·cases hr
 | .cell c ty::l,rs,hr=>by
  simp only[resA]at hr;split at hr
  ·rename_i b col r hp hl;split at hr
   ·rename_i cells hb;split at hr
    ·rename_i x hx;injection hr with hr;subst hr;obtain⟨vs,h1,h2⟩:=Hs hC M l r hl;obtain⟨lo,cs,e,fr,k1,k2,k3⟩:=Nw M.H hb;have hT:=M.T c;rw[hp]at hT;generalize hv:a.tmps.getD c undef=v at hT
     cases hT with
     |ptr _ _ l' hl'=>
     obtain rfl:l'=lo:=by rw[hl']at k1;exact Option.some.inj k1
     obtain⟨u,p1,p2⟩:=AQ hC k3 rfl hx;exact⟨u::vs,by simp only[sN,Sem.run_bind,UV,hv,asAddr,Sem.run_pure,Result.andThen_ok,p1,h1],RepL.cons p2 h2⟩
    ·cases hr
   ·cases hr
  ·cases hr
theorem yP:∀ (args:List AV) (i:Nat),argsT args i=(args[i]?).getD .any
 |[],i=>by simp[argsT]
 |x::xs,0=>by simp[argsT]
 |x::xs,i+1=>by simp[argsT,yP xs i]
theorem bY.intro(hC:CtxOk C){f:FuncId}{fn:Func}{body:Code}{args:List AV}{r:AV}(hf:C.P.funcs[f]?=some fn)(hb:fn.body=some body)(hnm:(fn.name== "runtime.NumGoroutine")=false)
  (hN:tQ fn.ntmps body=true) (hlen:Nat.ble args.length fn.ntmps=true) (hw:gC C (bY C) body ⟨argsT args,λ _=>none,0⟩ (Fin C fn r)) (hdf:C.df=[]:=by rfl):bY C f args r:=by
 refine⟨⟨fn,hf,by rw[hb];rfl,hnm⟩,λ S w vs hS hG hargs=>?_⟩;have hlen:=aR hlen;refine calls_of_wp hf hb ?_;have M0:SimD C (Inv.any C.fr) w S fn.ntmps (· <(0:Nat)) (argsT args) (λ _=>none) {tmps:=vs.toArray++Array.replicate (fn.ntmps - vs.toArray.size) undef,defers:=[]} w S noB:=by
  have hl:vs.length=args.length:=hargs.1.symm;refine⟨λ i=>?_,⟨λ s blk h=>(by cases h),λ s s' l l' h=>absurd rfl h,hS,aC _⟩,Below.refl _ _,λ x l h=>(by cases h),hdf.symm,by simp;omega,hG,λ _ h=>.inl h,trivial⟩;rw[yP]
  cases ha:args[i]? with
  |none=>exact .any _
  | some x=>
   have hi:i<vs.length:=by rw[hl];exact (Db.1 ha).1
   have hv:vs[i]?=some vs[i]:=aA hi;have:(vs.toArray++Array.replicate (fn.ntmps - vs.toArray.size) undef).getD i undef=vs[i]:=by
    rw[aJ,dL (by simpa using hi),eK,hv];rfl
   rw[this];exact hargs.2 i x _ ha hv
 refine wp_mono (BE hC body hN ⟨argsT args,λ _=>none,0⟩ _ hw _ w S noB M0) ?_;rintro e a' w' ⟨e',st,S',β',rfl,hfin,M⟩;have fin:Sg C fn r st→a'.defers=[]∧∃ v,(results fn a'.tmps).run C.P w'=.ok v w'∧∃ v',Ending.returned v=.returned v'∧Below w.heap.size w w'∧Rep (λ b=>S b∨(w.heap.size≤b∧b<w'.heap.size)) w' noB r v':=by
  rintro ⟨rs,h1,h2,h3,h4⟩;obtain⟨t,h,n⟩:=st;obtain⟨us,g1,g2⟩:=Hs hC M _ rs h1;refine⟨M.df.trans hdf,_,wX _ us g1 fn rfl,_,rfl,M.B,?_⟩;have hret:Rep S' w' β' (Cz rs) (if h:us.toArray.size=1 then us.toArray[0]else .tuple us.toArray):=by
   match rs,us,g2 with
   |[],us,g2=>
    have:us=[]:=bF g2.1.symm;subst this
    exact .tup [] #[] rfl λ i a u p=>by simp at p
   |[x],us,g2=>
    match us,g2 with
    |[u],g2=>simpa [Cz]using g2.2 0 x u rfl rfl
    |[],g2=>exact absurd g2.1 (by simp)
    |_::_::_,g2=>exact absurd g2.1 (by simp)
   | x::y::zs,us,g2=>
    have hne: ¬ us.toArray.size=1:=by
     have:=g2.1;simp at this⊢;omega
    rw[dif_neg hne];exact .tup _ _ (by simpa using g2.1) λ i a u p q=>g2.2 i a u p (by simpa using q)
  have hd:=AL M.H hret h2;refine h4 _ _ _ ?_;exact (lM hd h3 noB).mono (λ b hb=>hb.elim (λ hb=>(M.nw b hb).imp id λ h=>⟨h,M.H.lt b hb⟩) .inr) (Evo.refl _ _) (Jk.refl _)
 cases e' with
 |normal=>exact fin hfin
 |ret=>exact fin hfin
 |exit i=>exact hfin.elim
end
inductive TT where
 |leaf (k:Nat) (i:TI)
 |node (k:Nat) (l r:TT)
def TT.find:TT→Nat→Option TI
 | .leaf k i,t=>match Nat.beq t k with|true=>some i|false=>none
 | .node k l r,t=>match Nat.blt t k with|true=>l.find t|false=>r.find t
def Qi(P:Program):TT→Prop
 | .leaf k i=>TyOk P k i
 | .node _ l r=>Qi P l∧Qi P r
theorem TT.find_ok{P:Program}:∀ (T:TT),Qi P T→∀ t i,T.find t=some i→TyOk P t i
 | .leaf k i,h,t,i',hf=>by
  simp only[TT.find]at hf;split at hf
  ·rename_i hb;injection hf with hf;subst hf;rw[aM hb];exact h
  ·cases hf
 | .node k l r,h,t,i,hf=>by
  simp only[TT.find]at hf;split at hf
  ·exact TT.find_ok l h.1 t i hf
  ·exact TT.find_ok r h.2 t i hf
def SZ(P:Program)(inf:TypeInfo)(z:Value)(i:TI):Bool:=
 inf.size==i.sz&&inf.bytes==i.bytes&&z.cells.size==i.sz&&Nat.blt 0 i.sz&&Nat.ble i.bytes 1000&&UO z.cells.toList
theorem Qj{P:Program}{t:TypeId}{i:TI}{inf:TypeInfo}{z:Value}(h1:P.info? t=some inf)(h2:inf.zero=some z)(h3:i.zero=MW z)(hc:SZ P inf z i=true){d:TypeDesc}(hd:P.underlying t=some d)(hrow:d.isRow=i.ag)
  (hk:match i.kd with
  | .bool=>d=.bool
  | .int k=>d=.int k
  | .string=>d=.string
  | .slice e=>d=.slice e
  | .array n e=>d=.array n e
  | .struct fs=>∃ fields,d=.struct fields∧fields.toList.map (λ f=>(f.offset,f.type))=fs∧(fields.toList.all λ f=>match P.info? f.type with|some i=> !(i.size==0)|none=>false)=true
  |_=>True) (he:i.eq≠[]→UW P t i.eq):TyOk P t i:=by
 simp only[SZ,aK,pD]at hc;obtain⟨⟨⟨⟨⟨c1,c2⟩,c3⟩,c4⟩,c5⟩,c6⟩:=hc;refine⟨⟨inf,z,h1,c1,c2,h2,h3,c3,aR c4,aR c5⟩,λ inf' z' e1 e2 k u hu=>?_,⟨d,hd,hrow⟩,?_,he⟩
 ·rw[h1]at e1;injection e1 with e1;subst e1;rw[h2]at e2;injection e2 with e2;subst e2;exact AP _ c6 k u (by simpa using hu)
 ·cases hkd:i.kd<;>rw[hkd]at hk<;>simp only at hk⊢ <;>first|(rw[hd,hk];done)|trivial|skip
  obtain⟨fields,rfl,g1,g2⟩:=hk;refine⟨fields,hd,g1,λ f hf=>?_⟩;have:=qI.1 g2 f hf;split at this
  ·rename_i inf' hi;exact⟨inf',hi,by simpa using this⟩
  ·cases this
end Go.Proofs.YtlhofpglndhfaaaGreatDoor
