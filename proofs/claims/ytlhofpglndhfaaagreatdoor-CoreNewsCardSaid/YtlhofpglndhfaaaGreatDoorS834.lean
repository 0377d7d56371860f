/- Joined texts. -/
import Derived.Test.YtlhofpglndhfaaaGreatDoorS801
import Derived.Test.YtlhofpglndhfaaaGreatDoorS828
import Derived.Test.YtlhofpglndhfaaaGreatDoorS833
set_option linter.unusedVariables false
set_option linter.unusedSimpArgs false
namespace Go.Proofs.YtlhofpglndhfaaaGreatDoor
set_option maxRecDepth 100000
set_option maxHeartbeats 4000000
open Go.RowKit
theorem Xb(a:Addr)(k:Nat)(w:World):Calls Tryz.prog 86 #[.slice (some a) 0 k] w λ e w'=>∃ v,e=.returned v∧Below w.heap.size w w'∧∃ A c,v=.slice A 0 c∧c≤maxLen:=by
 obtain⟨i0,z0,hi, -⟩:=(c0Ok.ty 95 _ rfl).info
 go_enter Tryz.func86,Tryz.ntmps86
 have hb:Sem.run Tryz.prog (binOp .eql 29 (.slice (some a) 0 k) (.slice none 0 0)) w=.ok (.bool false) w:=by
  have e1:(Op.equal 29 (.slice (some a) 0 k) (.slice none 0 0)).run Tryz.prog w=.ok (some a).isNone w:=AR Tryz.prog w 9999 _ 95 (c0Ok.ty 29 _ rfl).kd _ _ _;simp only[binOp,Sem.run_bind,e1,Result.andThen_ok];rfl
 go_wp2_with (first|(rw[hb];simp only[Result.andThen_ok,Oper.upon])|(at_builtin;refine xO rfl (.tmp 5) (.tmp 6) 29 rfl 95 i0 (c0Ok.ty 29 _ rfl).kd hi _ _ _ _ rfl rfl ?_))
 go_ret
 exact⟨_,rfl,(Below.refl _ _).alloc (aC _) _,_,_,rfl,aE _⟩
theorem Nc(k:Nat):bV C0 86 [.v (.slice none 0 k)] (.sl 0 [] true):=by
 refine bV.intro c0Ok Tryz.func86 rfl rfl (by kernel_rfl) rfl<|cSR<|oR 1 rfl<|rE 1<|bI<|cSR<|oR 1 rfl<|rV (vB true) rfl<|rE 3 ?_;refine aQ rfl (λ _=>?_) (λ h=>by cases h);refine cSR<|oR 1 rfl<|rE 4<|cM ?_;exact fT rfl rfl
theorem TV(ck:Bool):bV C0 86 [.sl 17 [] ck] (.sl 17 [] false):=by
 refine⟨(Nc 0).1,λ S w vs hS hG hr=>?_⟩
 match vs,hr with
 |[],hr=>simp[RepL]at hr
 |_::_::_,hr=>simp[RepL]at hr
 | [v],hr=>
  have h0:=hr.2 0 _ v rfl rfl
  cases h0 with
  | sl _ _ _ A c b o u hc hm hcl hrs hA hw h1 h'=>
   cases A with
   |none=>exact ((Nc c).sub (mQ 17 false)).2 S w _ hS hG (RepL.cons (.v _) (RepL.nil _ _ _))
   |some a=>
    exact (Xb a c w).mono λ e w' ⟨v,h1,h2,A,c',h3,h4⟩=>⟨v,h1,h2,h3 ▸ .sl 17 [] false A c' 0 0 (λ _ _=>.bool false) (aE _) h4 (λ h=>by cases h) (λ _ h=>by cases h) (λ h=>absurd h (dZ 0)) (λ i row j a h=>by simp at h) (λ _ _=>rfl) λ i row j a h=>by simp at h⟩
theorem TW{p:Prop}{H:AH}{s:Nat}(e:Ent)(l:List Ent):Res.fx p (.osl s 0 (([]:List (List AV)).length+((e::l).map enL).length) false) (upd H s (some (.arr (([]:List (List AV))++(e::l).map enL) 17)))=.fx p (.osl s 0 (l.length+1) false) (upd H s (some (.arr ((e::l).map enL) 17))):=by
 rw[iZ,aH,bR,cY,bO]
theorem Xc(e:Ent)(l:List Ent)(ck:Bool)(hl:l.length≤1000):qF C0.P C0.G 86 [.sl 17 ((e::l).map enL) ck] (heapF []) 0 (λ x h'=>x=.osl 0 0 (l.length+1) false∧h'=heapF [(0,.arr ((e::l).map enL) 17)]):=by
 refine HCall.intro (C:=C0) (s:=0) c0Ok.at Tryz.func86 rfl rfl (by kernel_rfl) rfl rfl<|cSR<|oR 1 rfl<|rE 1<|bI<|cSR<|oR 1 rfl<|rV (vB false) rfl<|rE 3 ?_;refine aQ rfl (λ h=>by cases h) (λ _=>?_);refine aY<|cSR<|rV (.sl 17 ([]) true) rfl<|oR 1 rfl<|rFx (x:=.osl 5 0 (l.length+1) false) (h':=upd _ 5 (some (.arr ((e::l).map enL) 17))) rfl rfl (TW e l) (⟨by simp only[aH,bR,cY,kK];omega,by simp,trivial,trivial⟩)<|oR 1 rfl<|rE 7<|cM ?_;exact pP (rs:=[.osl 5 0 (l.length+1) false]) rfl (r:=.osl 0 0 (l.length+1) false) (h':=heapF [(0,.arr ((e::l).map enL) 17)]) (σ:=λ _=>5) ⟨rfl,rfl⟩ rfl (cH (λ _=>5) rfl rfl wH rfl)
theorem Va(l:List Ft)(ck:Bool)(hl:l.length≤1000000):bV C0 87 [.sl 2 (l.map ftL) ck] (.sl 2 (l.map ftL) true):=by
 refine bV.intro c0Ok Tryz.func87 rfl rfl (by kernel_rfl) rfl<|cSR<|oR 1 rfl<|rE 1<|cSR<|oR 2 rfl<|rW (vN l.length) rfl (bJ ftL l)<|oR 1 rfl<|rW (vN l.length) rfl (bJ ftL l) ?_;refine nW (.sl 2 ((l.take l.length).map ftL) true) rfl (uI (rL ftL l l.length)) (by refine⟨?_,?_,?_,?_⟩;all_goals (first|exact aG _|decide|(apply Fg.2;exact omT)|(show (_:Int)=(_:Int);congr 1;omega)|rfl)) ?_;refine oR 1 rfl<|rE 8<|cM<|fT rfl ?_;show AV.sl 2 (List.map ftL (List.take l.length l)) true=_;rw[cX]
theorem Vb(l:List Pt)(ck:Bool)(hl:l.length≤1000000):bV C0 88 [.sl 2 (l.map ptL) ck] (.sl 2 (l.map ptL) true):=by
 refine bV.intro c0Ok Tryz.func88 rfl rfl (by kernel_rfl) rfl<|cSR<|oR 1 rfl<|rE 1<|cSR<|oR 2 rfl<|rW (vN l.length) rfl (bJ ptL l)<|oR 1 rfl<|rW (vN l.length) rfl (bJ ptL l) ?_;refine nW (.sl 2 ((l.take l.length).map ptL) true) rfl (uI (rL ptL l l.length)) (by refine⟨?_,?_,?_,?_⟩;all_goals (first|exact aG _|decide|(apply Fg.2;exact omT)|(show (_:Int)=(_:Int);congr 1;omega)|rfl)) ?_;refine oR 1 rfl<|rE 8<|cM<|fT rfl ?_;show AV.sl 2 (List.map ptL (List.take l.length l)) true=_;rw[cX]
theorem Vc(l:List Req)(ck:Bool)(hl:l.length≤1000000):bV C0 89 [.sl 4 (l.map rqL) ck] (.sl 4 (l.map rqL) true):=by
 refine bV.intro c0Ok Tryz.func89 rfl rfl (by kernel_rfl) rfl<|cSR<|oR 1 rfl<|rE 1<|cSR<|oR 2 rfl<|rW (vN l.length) rfl (bJ rqL l)<|oR 1 rfl<|rW (vN l.length) rfl (bJ rqL l) ?_;refine nW (.sl 4 ((l.take l.length).map rqL) true) rfl (uI (rL rqL l l.length)) (by refine⟨?_,?_,?_,?_⟩;all_goals (first|exact aG _|decide|(apply Fg.2;exact omT)|(show (_:Int)=(_:Int);congr 1;omega)|rfl)) ?_;refine oR 1 rfl<|rE 8<|cM<|fT rfl ?_;show AV.sl 4 (List.map rqL (List.take l.length l)) true=_;rw[cX]
theorem Vd(l:List Sp)(ck:Bool)(hl:l.length≤1000000):bV C0 90 [.sl 9 (l.map spL) ck] (.sl 9 (l.map spL) true):=by
 refine bV.intro c0Ok Tryz.func90 rfl rfl (by kernel_rfl) rfl<|cSR<|oR 1 rfl<|rE 1<|cSR<|oR 2 rfl<|rW (vN l.length) rfl (bJ spL l)<|oR 1 rfl<|rW (vN l.length) rfl (bJ spL l) ?_;refine nW (.sl 9 ((l.take l.length).map spL) true) rfl (uI (rL spL l l.length)) (by refine⟨?_,?_,?_,?_⟩;all_goals (first|exact aG _|decide|(apply Fg.2;exact omT)|(show (_:Int)=(_:Int);congr 1;omega)|rfl)) ?_;refine oR 1 rfl<|rE 8<|cM<|fT rfl ?_;show AV.sl 9 (List.map spL (List.take l.length l)) true=_;rw[cX]
theorem rB{c:Co}{fz:Fz}{R R' F F' S S' T T':AV}(hR:LeZ fz R R')(hF:LeZ fz F F')(hS:LeZ fz S S')(hT:LeZ fz T T'):LeL fz (mcX c R F S T) (mcX c R' F' S' T'):=
 ⟨.refl _,.refl _,.refl _,.refl _,.refl _,.refl _,.refl _,.refl _,.refl _,.refl _,.refl _,.refl _,.refl _,.refl _,.refl _,.refl _,.refl _,.refl _,.refl _,.refl _,.refl _,.refl _,.refl _,.refl _,.refl _,.refl _,.refl _,.refl _,.refl _,.refl _,.refl _,.refl _,.refl _,.refl _,.refl _,.refl _,.refl _,.refl _,.refl _,.refl _,.refl _,.refl _,.refl _,.refl _,.refl _,.refl _,.refl _,hF,hR,.refl _,hS,.refl _,.refl _,.refl _,.refl _,.refl _,.refl _,.refl _,.refl _,.refl _,.refl _,.refl _,.refl _,hT,trivial⟩
theorem Zp{C:Ctx}{fn:Func}{Post:AV→AH→Prop}{s:Nat}{st stg:ASt}{rs:List AV}(h1:resA C st fn.results.toList=some rs)(hg:Ghosts ⟨FC (CR rs),st.h,st.n⟩ stg){r:AV}{h':AH}{σ:Nat→Nat}(hP:Post r h')(hk:keepB s σ (s+1)=true)(hW:Weak stg ⟨FC r,h',s+1⟩ σ):
  ∃ rs,resA C st fn.results.toList=some rs∧GhostN ⟨FC (CR rs),st.h,st.n⟩ (λ stg=>∃ r h' σ,Post r h'∧keepB s σ (s+1)=true∧Weak stg ⟨FC r,h',s+1⟩ σ):=
 ⟨rs,h1,.mk _ hg ⟨r,h',σ,hP,hk,hW⟩⟩
theorem Cm{x r:AV}{h:AH}{n0:Nat}{hp:List (Nat×Blk)}{n:Nat}(σ:Nat→Nat)(hx:x=uM σ r)(hb:mT n r=true)(hh:WH ⟨slotsF [(0,x)],h,n0⟩ n σ hp)(hi:DO ((hp.map (·.1)).map σ)=true):Weak ⟨slotsF [(0,x)],h,n0⟩ ⟨FC r,heapF hp,n⟩ σ:=by
 have W:=Weak.of_lists (st:=⟨slotsF [(0,x)],h,n0⟩) (l:=[(0,r)]) (hp:=hp) (n:=n) σ ⟨⟨hx,hb⟩,trivial⟩ hh hi;refine⟨λ i=>?_,W.h,W.inj⟩;have:=W.t i
 cases i with
 |zero=>exact this
 |succ i=>exact .inl rfl
theorem Ghosts.snoc{a b c:ASt}{fz:Fz}(h:Ghosts a b)(k:Ghost b c fz):Ghosts a c:=by
 induction h with
 |refl=>exact .step fz k (.refl _)
 |step f g _ ih=>exact .step f g (ih k)
abbrev fzB (fz:Fz) (i:Nat):Prop:=match fz with|some (b,_,_)=>Nat.beq i b=false|none=>True
abbrev fzH (fz:Fz) (h:AH):Prop:=match fz with|some (x,rs,rows)=>h x=some (.arr rows rs)|none=>True
theorem ghX{st:ASt}{fz:Fz}{i:Nat}{cs ds:List AV}{l:List (Nat×Blk)}(h0:st.h i=some (.box cs))(hle:LeL fz cs ds)(hl:GH st fz l)(hz:fzB fz i:=by first|exact trivial|rfl):GH st fz ((i,.box ds)::l):=⟨⟨by rcases fz with _|⟨b,r,q⟩<;>exact hz,_,h0,.boxL hle⟩,hl⟩
theorem ghA{st:ASt}{fz:Fz}{i:Nat}{b:Blk}{l:List (Nat×Blk)}(h0:st.h i=some b)(hl:GH st fz l)(hz:fzB fz i:=by first|exact trivial|rfl):GH st fz ((i,b)::l):=⟨⟨by rcases fz with _|⟨b,r,q⟩<;>exact hz,_,h0,.refl _⟩,hl⟩
theorem Dt{C:Ctx}{fn:Func}{Post:AV→AH→Prop}{s:Nat}{st a:ASt}{hp:List (Nat×Blk)}(hg:Ghosts ⟨FC (.tup []),st.h,st.n⟩ a)(fz:Fz)(hP:Post (.tup []) (heapF hp))(hG:GH a fz hp)(h1:resA C st fn.results.toList=some []:=by rfl)(hb:fzH fz a.h:=by first|exact trivial|rfl)(ht:LeZ fz (a.t 0) (.tup []):=by exact .refl _)(hk:keepB s (λ z=>z) (s+1)=true:=by rfl)(hh:WH ⟨slotsF [(0,.tup [])],heapF hp,a.n⟩ (s+1) (λ z=>z) hp:=by exact wH)(hi:DO ((hp.map (·.1)).map (λ z=>z))=true:=by rfl):
  ∃ rs,resA C st fn.results.toList=some rs∧GhostN ⟨FC (CR rs),st.h,st.n⟩ (λ stg=>∃ r h' σ,Post r h'∧keepB s σ (s+1)=true∧Weak stg ⟨FC r,h',s+1⟩ σ):=
 Zp (rs:=[]) h1 (hg.snoc (Ghost.of_lists (l:=[(0,.tup [])]) (by rcases fz with _|⟨b,r,q⟩<;>exact hb) ⟨ht,trivial⟩ hG)) hP hk (Cm (λ z=>z) rfl rfl hh hi)
theorem aaN(c:Co)(nb:Nat)(hm:c.okM nb)(kR kF kS kT:Bool):qF C0.P C0.G 51 [.ptr 0 0] (heapF [(0,.box (mcX c (.sl 17 [] kR) (.sl 2 (c.fetched.map ftL) kF) (.sl 2 (c.stores.map ptL) kS) (.sl 9 (c.retired.map spL) kT)))]) 1 (λ x h'=>x=.tup []∧h'=heapF [(0,.box (mcX c (.sl 17 [] false) (.sl 2 (c.fetched.map ftL) true) (.sl 2 (c.stores.map ptL) true) (.sl 9 (c.retired.map spL) true)))]):=by
 refine HCall.intro (C:=C0) (s:=1) c0Ok.at Tryz.func51 rfl rfl (by kernel_rfl) rfl rfl<|cSR<|oR 6 rfl<|rCi rfl (TV kR)<|oR 3 rfl<|rSx 0 (mcX c (.sl 17 ([]) false) (.sl 2 (c.fetched.map ftL) kF) (.sl 2 (c.stores.map ptL) kS) (.sl 9 (c.retired.map spL) kT)) rfl rfl rfl<|rE 12<|cSR<|oR 6 rfl<|rCi rfl (Va c.fetched kF (by have:=hm.fet;omega))<|oR 3 rfl<|rSx 0 (mcX c (.sl 17 ([]) false) (.sl 2 (c.fetched.map ftL) true) (.sl 2 (c.stores.map ptL) kS) (.sl 9 (c.retired.map spL) kT)) rfl rfl rfl<|rE 23<|bI ?_;refine cRg<|oR 6 rfl<|rCi rfl (Vb c.stores kS (by have:=hm.sto;omega))<|oR 3 rfl<|rSx 0 (mcX c (.sl 17 ([]) false) (.sl 2 (c.fetched.map ftL) true) (.sl 2 (c.stores.map ptL) true) (.sl 9 (c.retired.map spL) kT)) rfl rfl rfl<|rE 34<|cSR<|oR 6 rfl<|rCi rfl (Vc c.bus false (by have:=hm.bus;omega))<|oR 3 rfl<|rSt rfl<|rE 45<|cRg<|oR 6 rfl<|rCi rfl (Vd c.retired kT (by have:=hm.ret;omega)) ?_;refine oR 3 rfl<|rSt rfl<|rE 56 ?_;exact Zp (rs:=[]) rfl (.step none (Ghost.of_lists (l:=[(0,.tup [])]) (hp:=[(0,.box (mcX c (.sl 17 [] false) (.sl 2 (c.fetched.map ftL) true) (.sl 2 (c.stores.map ptL) true) (.sl 9 (c.retired.map spL) true)))]) trivial ⟨.refl _,trivial⟩ ⟨⟨trivial,_,rfl,LeB.boxL ⟨.refl _,.refl _,.refl _,.refl _,.refl _,.refl _,.refl _,.refl _,.refl _,.refl _,.refl _,.refl _,.refl _,.refl _,.refl _,.refl _,.refl _,.refl _,.refl _,.refl _,.refl _,.refl _,.refl _,.refl _,.refl _,.refl _,.refl _,.refl _,.refl _,.refl _,.refl _,.refl _,.refl _,.refl _,.refl _,.refl _,.refl _,.refl _,.refl _,.refl _,.refl _,.refl _,.refl _,.refl _,.refl _,.refl _,.refl _,.refl _,.refl _,.refl _,.refl _,.refl _,.refl _,.refl _,.refl _,.clip _ _,.refl _,.refl _,.refl _,.refl _,.refl _,.refl _,.refl _,.refl _,trivial⟩⟩,trivial⟩) (.refl _)) (r:=.tup []) (h':=heapF [(0,.box (mcX c (.sl 17 [] false) (.sl 2 (c.fetched.map ftL) true) (.sl 2 (c.stores.map ptL) true) (.sl 9 (c.retired.map spL) true)))]) (σ:=λ z=>z) ⟨rfl,rfl⟩ rfl (Cm (λ z=>z) rfl rfl wH rfl)
theorem aaO(c:Co)(nb:Nat)(hm:c.okM nb)(e:Ent)(l:List Ent)(hel:(e::l).length≤1000)(kR kF kS kT:Bool):qF C0.P C0.G 51 [.ptr 0 0] (heapF [(0,.box (mcX c (.sl 17 ((e::l).map enL) kR) (.sl 2 (c.fetched.map ftL) kF) (.sl 2 (c.stores.map ptL) kS) (.sl 9 (c.retired.map spL) kT)))]) 1 (λ x h'=>x=.tup []∧h'=heapF [(0,.box (mcX c (.osl 1 0 (l.length+1) false) (.sl 2 (c.fetched.map ftL) true) (.sl 2 (c.stores.map ptL) true) (.sl 9 (c.retired.map spL) true))),(1,.arr ((e::l).map enL) 17)]):=by
 refine HCall.intro (C:=C0) (s:=1) c0Ok.at Tryz.func51 rfl rfl (by kernel_rfl) rfl rfl ?_;have hel2:l.length+1≤1000:=hel;refine cSR<|oR 6 rfl<|fX (args:=[.sl 17 ((e::l).map enL) kR]) (d:=8) _ rfl rfl rfl ((Xc e l kR omT).frame0 _ _ rfl) ?_;rintro _ _ ⟨rfl,rfl⟩;refine oR 3 rfl<|rSx 0 (mcX c (.osl 7 0 (l.length+1) false) (.sl 2 (c.fetched.map ftL) kF) (.sl 2 (c.stores.map ptL) kS) (.sl 9 (c.retired.map spL) kT)) rfl rfl rfl<|rE 12<|cSR<|oR 6 rfl<|rCi rfl (Va c.fetched kF (by have:=hm.fet;omega))<|oR 3 rfl<|rSx 0 (mcX c (.osl 7 0 (l.length+1) false) (.sl 2 (c.fetched.map ftL) true) (.sl 2 (c.stores.map ptL) kS) (.sl 9 (c.retired.map spL) kT)) rfl rfl rfl<|rE 23<|cSR<|oR 6 rfl<|rCi rfl (Vb c.stores kS (by have:=hm.sto;omega))<|oR 3 rfl<|rSx 0 (mcX c (.osl 7 0 (l.length+1) false) (.sl 2 (c.fetched.map ftL) true) (.sl 2 (c.stores.map ptL) true) (.sl 9 (c.retired.map spL) kT)) rfl rfl rfl ?_;refine rE 34<|cSR<|oR 6 rfl<|rCi rfl (Vc c.bus false (by have:=hm.bus;omega))<|oR 3 rfl<|rSt rfl<|rE 45<|cRg<|oR 6 rfl<|rCi rfl (Vd c.retired kT (by have:=hm.ret;omega))<|oR 3 rfl<|rSt rfl<|rE 56 ?_;exact Zp (rs:=[]) rfl (.step none (Ghost.of_lists (l:=[(0,.tup [])]) (hp:=[(0,.box (mcX c (.osl 7 0 (l.length+1) false) (.sl 2 (c.fetched.map ftL) true) (.sl 2 (c.stores.map ptL) true) (.sl 9 (c.retired.map spL) true))),(7,.arr ((e::l).map enL) 17)]) trivial ⟨.refl _,trivial⟩ ⟨⟨trivial,_,rfl,LeB.boxL ⟨.refl _,.refl _,.refl _,.refl _,.refl _,.refl _,.refl _,.refl _,.refl _,.refl _,.refl _,.refl _,.refl _,.refl _,.refl _,.refl _,.refl _,.refl _,.refl _,.refl _,.refl _,.refl _,.refl _,.refl _,.refl _,.refl _,.refl _,.refl _,.refl _,.refl _,.refl _,.refl _,.refl _,.refl _,.refl _,.refl _,.refl _,.refl _,.refl _,.refl _,.refl _,.refl _,.refl _,.refl _,.refl _,.refl _,.refl _,.refl _,.refl _,.refl _,.refl _,.refl _,.refl _,.refl _,.refl _,.clip _ _,.refl _,.refl _,.refl _,.refl _,.refl _,.refl _,.refl _,.refl _,trivial⟩⟩,⟨trivial,_,rfl,.refl _⟩,trivial⟩) (.refl _)) (r:=.tup []) (h':=heapF [(0,.box (mcX c (.osl 1 0 (l.length+1) false) (.sl 2 (c.fetched.map ftL) true) (.sl 2 (c.stores.map ptL) true) (.sl 9 (c.retired.map spL) true))),(1,.arr ((e::l).map enL) 17)]) (σ:=λ z=>match z with|1=>7|z=>z) ⟨rfl,rfl⟩ rfl (Cm (λ z=>match z with|1=>7|z=>z) rfl rfl wH rfl)
theorem PG{g:Gu}(h:g.ok)(pc:Nat)(i:SI):wO g pc i≤4294967295:=by
 unfold wO;split
 ·split
  ·cases hl:g.rets.getLast? with
   |none=>exact aE _
   |some x=>exact h.ro x (List.mem_of_getLast? hl)
  ·cases hs:g.slots[gO g pc]? with
   |none=>exact zC _
   |some s=>
    dsimp only;split
    ·exact (h.so s (aB hs)).next
    ·exact zC _
 ·exact zC _
theorem PH{c:Cf}(h:∀ x∈c.tape,x≤4294967295)(k:Int)(pc:Nat):xQ c k pc≤4294967295:=by
 have hp:=DC h;unfold xQ;generalize (bC c).tape=l at hp
 cases l with
 |nil=>exact zC _
 |cons y l=>
  show (y::l).getD _ _≤_;rw[bN]
  cases hq:(y::l)[(max k 0).toNat % (y::l).length]? with
  |none=>exact aE _
  |some x=>exact hp x (aB hq)
theorem PI{c:Co}{n:Nat}(h:c.okM n)(w:Nat):(cQ c w).2≤4294967295:=by
 unfold cQ;split
 ·exact zC _
 ·split
  ·exact PG h.ok.guess _ _
  ·exact PH h.conf.tp _ _
theorem AJ(c:Co)(w:Nat):(cQ c w).1.fetched=c.fetched:=by
 unfold cQ;split
 ·rfl
 ·split<;>rfl
def gY(d:Co):Co:={d with words:=oT d.words (lineOf d.fetch)}
theorem As{c:Co}{n:Nat}(h:c.okM n):(gY c).okM n:=by
 have g:=ZF.1 (h.gw.touch (lineOf c.fetch));exact⟨⟨h.ok.conf,h.ok.prog,h.ok.progo,h.ok.r,h.ok.fetch,h.ok.fet,h.ok.feto,h.ok.rob,h.ok.robo,h.ok.sto,h.ok.stoo,h.ok.data,g.2,h.ok.bus,h.ok.buso,h.ok.asked,h.ok.guessed,h.ok.mem,h.ok.guess,h.ok.ret,h.ok.reto⟩,h.nb,h.cf,h.data,g.1,h.guess,h.rob,h.fet,h.sto,h.prog,h.mem,h.std⟩
theorem NO{c:Co}{n:Nat}(h:c.okM n)(w:Nat):(cQ c w).1.okM n:=by
 unfold cQ;split
 ·exact h
 ·split
  ·exact h
  ·exact⟨⟨h.ok.conf,h.ok.prog,h.ok.progo,h.ok.r,h.ok.fetch,h.ok.fet,h.ok.feto,h.ok.rob,h.ok.robo,h.ok.sto,h.ok.stoo,h.ok.data,h.ok.words,h.ok.bus,h.ok.buso,h.ok.asked,Ew _,h.ok.mem,h.ok.guess,h.ok.ret,h.ok.reto⟩,h.nb,h.cf,h.data,h.words,h.guess,h.rob,h.fet,h.sto,h.prog,h.mem,h.std⟩
theorem Le{c:Co}{n:Nat}(h:c.okM n)(hf:c.fetched.length≤999){x:Nat}(hx:x≤4294967295):(Lk c x).okM n:=by
 have hl:(c.fetched++[(⟨c.fetch,x⟩:Ft)]).length≤1000:=by simp;omega
 exact⟨⟨h.ok.conf,h.ok.prog,h.ok.progo,h.ok.r,hx,aN hl (by decide),oP h.ok.feto (oQ ⟨h.ok.fetch,hx⟩),h.ok.rob,h.ok.robo,h.ok.sto,h.ok.stoo,h.ok.data,h.ok.words,h.ok.bus,h.ok.buso,h.ok.asked,h.ok.guessed,h.ok.mem,h.ok.guess,h.ok.ret,h.ok.reto⟩,h.nb,h.cf,h.data,h.words,h.guess,h.rob,hl,h.sto,h.prog,h.mem,h.std⟩
def ab9(d:Co):Co:=Lk (cQ (gY d) (fetchW d.prog d.fetch)).1 (cQ (gY d) (fetchW d.prog d.fetch)).2
theorem tQ(d:Co):(ab9 d).fetched=d.fetched++[⟨(cQ (gY d) (fetchW d.prog d.fetch)).1.fetch,(cQ (gY d) (fetchW d.prog d.fetch)).2⟩]:=by
 show (cQ (gY d) _).1.fetched++_=_;rw[AJ];rfl
theorem acA{c:Co}{n:Nat}(h:c.okM n)(hf:c.fetched.length≤999):(ab9 c).okM n:=
 Le (NO (As h) _) (by rw[AJ];exact hf) (PI (As h) _)
theorem pV{d:Co}{n:Nat}(h:d.stop=true∨(d.fetched.length:Int)≥d.conf.queue):eG n d=d:=by
 cases n with
 |zero=>rfl
 |succ n=>exact if_pos h
theorem rJ{d:Co}{n:Nat}(hn:0<n)(h: ¬ (d.stop=true∨(d.fetched.length:Int)≥d.conf.queue))(hf:(fetchP d.prog d.fetch).isSome=false):eG n d={d with fetched:=d.fetched++[⟨d.fetch,up4 d.fetch⟩],stop:=true}:=by
 cases n with
 |zero=>cases hn
 |succ n=>exact (if_neg h).trans (if_pos hf)
theorem nQ{d:Co}{n:Nat}(hn:0<n)(h: ¬ (d.stop=true∨(d.fetched.length:Int)≥d.conf.queue))(hf: ¬ (fetchP d.prog d.fetch).isSome=false)(hw:(bF d.words (lineOf d.fetch)).2.isSome=false):eG n d=if DI d.bus (lineOf d.fetch) 2=false∧qV d false=true then iT d 2 (lineOf d.fetch) mR else d:=by
 cases n with
 |zero=>cases hn
 |succ n=>exact ((if_neg h).trans (if_neg hf)).trans (if_pos hw)
theorem tG{d:Co}{n k:Nat}(hn:k<n)(h: ¬ (d.stop=true∨(d.fetched.length:Int)≥d.conf.queue))(hf: ¬ (fetchP d.prog d.fetch).isSome=false)(hw: ¬ (bF d.words (lineOf d.fetch)).2.isSome=false):eG (n - (k+1)) (ab9 d)=eG (n - k) d:=by
 rw[show n - k=(n - (k+1))+1 by omega];exact (((if_neg h).trans (if_neg hf)).trans (if_neg hw)).symm
theorem VV(c:Co)(nb:Nat)(hm:c.okM nb)(w:Nat)(hw:w≤4294967295)(kR:Bool)(xR:List (List AV))(kF:Bool)(xF:List (List AV))(kS:Bool)(xS:List (List AV))(kT:Bool)(xT:List (List AV)):qF C0.P C0.G 119 [.ptr 0 0,vU w] (heapF [(0,.box (mcX c (.sl 17 xR kR) (.sl 2 xF kF) (.sl 2 xS kS) (.sl 9 xT kT)))]) 1 (λ x h'=>x=vU (cQ c w).2∧h'=heapF [(0,.box (mcX (cQ c w).1 (.sl 17 xR kR) (.sl 2 xF kF) (.sl 2 xS kS) (.sl 9 xT kT)))]):=by
 refine HCall.intro (C:=C1) (s:=1) c1Ok.at Tryz.func119 rfl rfl (by kernel_rfl) rfl rfl<|cSR<|oR 1 rfl<|rE 2<|cSR<|oR 1 rfl<|rCi rfl (Lt w (BX hw))<|oR 3 rfl<|rAl 7 rfl rfl<|rSt rfl<|oR 1 rfl<|rE 10<|bI<|bI ?_;refine cRg<|oR 1 rfl<|rW (vB ((decE w) != 0)) rfl (okB (neN _ _))<|oR 1 rfl<|gN rfl<|gT (args:=[.agg [vI ((fP w).op),vI ((fP w).rd),vI ((fP w).rs1),vI ((fP w).rs2),vU ((fP w).imm)]]) (x:=vN (kindOf (fP w).op)) (g:= !((decE w) != 0)) rfl rfl rfl rfl (λ h=>h) rfl rfl rfl (.inl rfl) rfl (λ hg=>rA (fP w))<|gBS (x:=vB ((kindOf (fP w).op) != 5)) rfl id (okB (neN _ _))<|cL rfl rfl rfl (by simp)<|rE 17 ?_;refine aQ rfl (λ h1=>?_) (λ h1=>?_)
 ·have hk1:(Fs w=0∨kindOf (fP w).op≠5):=by have z:=h1;have e:=CZ w;simp only[c2o,dM,dL,qD,iC,ne_eq]at z;grind
  refine cSR<|oR 5 rfl ?_;have b1:(c.fetch+4) % 4294967296≤4294967295:=aT (bG _ (by decide));refine rV (vU ((c.fetch+4) % 4294967296)) rfl<|oR 1 rfl<|rE 24<|cM ?_;rw[show cQ c w=(c,up4 c.fetch)from if_pos hk1];exact pP (rs:=[vU ((c.fetch+4) % 4294967296)]) rfl (r:=vU ((c.fetch+4) % 4294967296)) (σ:=λ z=>z) ⟨rfl,rfl⟩ rfl (cH (λ z=>z) rfl rfl wH rfl)
 ·have hk1: ¬ (Fs w=0∨kindOf (fP w).op≠5):=by have z:=h1;have e:=CZ w;simp only[c2o,dM,dL,qD,iC,ne_eq]at z;grind
  refine aY<|bI<|cSR<|oR 6 rfl<|rE 23 ?_;refine aQ rfl (λ h2=>?_) (λ h2=>?_)
  ·refine cSR<|oR 11 rfl<|rCi rfl (QQ c.guess c.fetch (fP w) hm.ok.guess hm.ok.fetch (aT (Ij w)))<|oR 1 rfl<|rE 36<|cM ?_;rw[show cQ c w=(c,wO c.guess c.fetch (fP w))from (if_neg hk1).trans (if_pos h2)];exact pP (rs:=[vU (wO c.guess c.fetch (fP w))]) rfl (r:=vU (wO c.guess c.fetch (fP w))) (σ:=λ z=>z) ⟨rfl,rfl⟩ rfl (cH (λ z=>z) rfl rfl wH rfl)
  ·refine aY<|cSR<|oR 15 rfl<|rCi rfl (Qb c.conf c.guessed c.fetch hm.conf hm.ok.guessed hm.ok.fetch)<|oR 1 rfl<|rE 40<|cSR<|oR 5 rfl<|rW (vI (wrap64 (c.guessed+1))) rfl (okI (w64 _))<|oR 3 rfl<|rSx 0 (mcX ({c with guessed:=wrap64 (c.guessed+1)}:Co) (.sl 17 xR kR) (.sl 2 xF kF) (.sl 2 xS kS) (.sl 9 xT kT)) rfl rfl rfl<|rE 50<|cSR ?_;refine oR 2 rfl<|rE 52<|cM ?_;rw[show cQ c w=({c with guessed:=wrap64 (c.guessed+1)},xQ c.conf c.guessed c.fetch)from (if_neg hk1).trans (if_neg (by rw[h2];decide))];exact pP (rs:=[vU (xQ c.conf c.guessed c.fetch)]) rfl (r:=vU (xQ c.conf c.guessed c.fetch)) (σ:=λ z=>z) ⟨rfl,rfl⟩ rfl (cH (λ z=>z) rfl rfl wH rfl)
theorem SQ(c:Co)(nb:Nat)(hm:c.okM nb)(w:Nat)(hw:w≤4294967295)(kR:Bool)(xR:List (List AV))(lF nF:Nat)(kF:Bool)(rF:List (List AV))(kS:Bool)(xS:List (List AV))(kT:Bool)(xT:List (List AV)):qF C0.P C0.G 119 [.ptr 0 0,vU w] (heapF [(0,.box (mcX c (.sl 17 xR kR) (.osl 1 lF nF kF) (.sl 2 xS kS) (.sl 9 xT kT))),(1,.arr rF 2)]) 2 (λ x h'=>x=vU (cQ c w).2∧h'=heapF [(0,.box (mcX (cQ c w).1 (.sl 17 xR kR) (.osl 1 lF nF kF) (.sl 2 xS kS) (.sl 9 xT kT))),(1,.arr rF 2)]):=by
 refine HCall.intro (C:=C1) (s:=2) c1Ok.at Tryz.func119 rfl rfl (by kernel_rfl) rfl rfl<|cSR<|oR 1 rfl<|rE 3<|cSR<|oR 1 rfl<|rCi rfl (Lt w (BX hw))<|oR 3 rfl<|rAl 8 rfl rfl<|rSt rfl<|oR 1 rfl<|rE 11<|bI<|bI ?_;refine cRg<|oR 1 rfl<|rW (vB ((decE w) != 0)) rfl (okB (neN _ _))<|oR 1 rfl<|gN rfl<|gT (args:=[.agg [vI ((fP w).op),vI ((fP w).rd),vI ((fP w).rs1),vI ((fP w).rs2),vU ((fP w).imm)]]) (x:=vN (kindOf (fP w).op)) (g:= !((decE w) != 0)) rfl rfl rfl rfl (λ h=>h) rfl rfl rfl (.inl rfl) rfl (λ hg=>rA (fP w))<|gBS (x:=vB ((kindOf (fP w).op) != 5)) rfl id (okB (neN _ _))<|cL rfl rfl rfl (by simp)<|rE 18 ?_;refine aQ rfl (λ h1=>?_) (λ h1=>?_)
 ·have hk1:(Fs w=0∨kindOf (fP w).op≠5):=by have z:=h1;have e:=CZ w;simp only[c2o,dM,dL,qD,iC,ne_eq]at z;grind
  refine cSR<|oR 5 rfl ?_;have b1:(c.fetch+4) % 4294967296≤4294967295:=aT (bG _ (by decide));refine rV (vU ((c.fetch+4) % 4294967296)) rfl<|oR 1 rfl<|rE 25<|cM ?_;rw[show cQ c w=(c,up4 c.fetch)from if_pos hk1];exact pP (rs:=[vU ((c.fetch+4) % 4294967296)]) rfl (r:=vU ((c.fetch+4) % 4294967296)) (σ:=λ z=>z) ⟨rfl,rfl⟩ rfl (cH (λ z=>z) rfl rfl wH rfl)
 ·have hk1: ¬ (Fs w=0∨kindOf (fP w).op≠5):=by have z:=h1;have e:=CZ w;simp only[c2o,dM,dL,qD,iC,ne_eq]at z;grind
  refine aY<|bI<|cSR<|oR 6 rfl<|rE 24 ?_;refine aQ rfl (λ h2=>?_) (λ h2=>?_)
  ·refine cSR<|oR 11 rfl<|rCi rfl (QQ c.guess c.fetch (fP w) hm.ok.guess hm.ok.fetch (aT (Ij w)))<|oR 1 rfl<|rE 37<|cM ?_;rw[show cQ c w=(c,wO c.guess c.fetch (fP w))from (if_neg hk1).trans (if_pos h2)];exact pP (rs:=[vU (wO c.guess c.fetch (fP w))]) rfl (r:=vU (wO c.guess c.fetch (fP w))) (σ:=λ z=>z) ⟨rfl,rfl⟩ rfl (cH (λ z=>z) rfl rfl wH rfl)
  ·refine aY<|cSR<|oR 15 rfl<|rCi rfl (Qb c.conf c.guessed c.fetch hm.conf hm.ok.guessed hm.ok.fetch)<|oR 1 rfl<|rE 41<|cSR<|oR 5 rfl<|rW (vI (wrap64 (c.guessed+1))) rfl (okI (w64 _))<|oR 3 rfl<|rSx 0 (mcX ({c with guessed:=wrap64 (c.guessed+1)}:Co) (.sl 17 xR kR) (.osl 1 lF nF kF) (.sl 2 xS kS) (.sl 9 xT kT)) rfl rfl rfl<|rE 51<|cSR ?_;refine oR 2 rfl<|rE 53<|cM ?_;rw[show cQ c w=({c with guessed:=wrap64 (c.guessed+1)},xQ c.conf c.guessed c.fetch)from (if_neg hk1).trans (if_neg (by rw[h2];decide))];exact pP (rs:=[vU (xQ c.conf c.guessed c.fetch)]) rfl (r:=vU (xQ c.conf c.guessed c.fetch)) (σ:=λ z=>z) ⟨rfl,rfl⟩ rfl (cH (λ z=>z) rfl rfl wH rfl)
theorem SR(c:Co)(nb:Nat)(hm:c.okM nb)(kR:Bool)(xR:List (List AV))(kS:Bool)(xS:List (List AV))(kT:Bool)(xT:List (List AV)):qF C0.P C0.G 57 [.ptr 0 0] (heapF [(0,.box (mcX c (.sl 17 xR kR) (.sl 2 (c.fetched.map ftL) true) (.sl 2 xS kS) (.sl 9 xT kT)))]) 1 (λ x h'=>x=.tup []∧h'=heapF [(0,.box (mcX (dY c) (.sl 17 xR kR) (.sl 2 ((dY c).fetched.map ftL) false) (.sl 2 xS kS) (.sl 9 xT kT)))]):=by
 refine HCall.intro (C:=C1) (s:=1) c1Ok.at Tryz.func57 rfl rfl (by kernel_rfl) rfl rfl ?_;obtain⟨W,hW,hW2⟩:∃ W:Nat,c.conf.width=(W:Int)∧W≤2:=⟨c.conf.width.toNat,by have:=nE hm.cf;omega,by have:=nE hm.cf;omega⟩;refine bI<|cSR<|oR 5 rfl<|rV (vB (c.halt != 0)) rfl<|rE 7 ?_;refine aQ rfl (λ h1=>?_) (λ h1=>?_)
 ·have h1p:=wX h1;refine cM ?_;have e:dY c=c:=if_pos h1p;rw[e];exact Dt (.refl _) none ⟨rfl,rfl⟩ (ghX rfl (rB (.refl _) (.clip _ _) (.refl _) (.refl _)) trivial)
 ·have h1p:=wY h1;refine aY<|cSR<|oR 7 rfl<|rE 14<|bE<|sW (κ:=Nat×Co×Bool) (λ z_=>match z_ with|(k,d,false)=>⟨slotsF [(0,.ptr 0 0),(14,vB (c.halt != 0)),(20,vI c.conf.width),(21,vN k)],heapF [(0,.box (mcX d (.sl 17 xR kR) (.sl 2 (d.fetched.map ftL) true) (.sl 2 xS kS) (.sl 9 xT kT)))],15⟩|(k,d,true)=>⟨slotsF [(0,.ptr 0 0),(14,vB (c.halt != 0)),(20,vI c.conf.width),(21,vN k)],heapF [(0,.box (mcX d (.sl 17 xR kR) (.osl 14 0 d.fetched.length false) (.sl 2 xS kS) (.sl 9 xT kT))),(14,.arr (d.fetched.map ftL) 2)],15⟩) (λ z_=>match z_ with|(k,d,_)=>k≤W∧d.okM nb∧eG (W - k) d=eG W c) (λ z_=>W - z_.1) (0,c,false) (λ s=>s) (Weak.of_lists (λ s=>s) wT wH rfl) rfl (⟨aE _,hm,rfl⟩) ?_;intro z_ hk;obtain⟨k,d,b_⟩:=z_;cases b_
  ·have hkn:k≤W:=hk.1;have hkB:k≤2:=by omega
   have hd:d.okM nb:=hk.2.1;have hG:eG (W - k) d=eG W c:=hk.2.2;refine cSR<|rV (vB (decide ((k:Int)<c.conf.width))) rfl<|rE 16<|bI ?_;refine aQ rfl (λ h2=>?_) (λ h2=>?_)
   ·have h2p:=of_decide_eq_true h2;refine aY<|bI<|bE<|bI<|cSR<|oR 6 rfl<|gN rfl<|gS rfl id<|gS rfl id<|gS rfl id<|gS rfl id<|gBS (x:=vN d.fetched.length) rfl id (bJ ftL d.fetched)<|gN rfl<|gS rfl id<|gS rfl id ?_;refine gS rfl id<|gS rfl id<|gS rfl id<|gBS (x:=vB (decide (((d.fetched.length:Nat):Int)≥d.conf.queue))) rfl hsT rfl<|cL rfl rfl rfl (by simp)<|rE 36 ?_;refine aQ rfl (λ h3=>?_) (λ h3=>?_)
    ·have hst:(d.stop=true∨(d.fetched.length:Int)≥d.conf.queue):=by have z:=h3;simpa [c2o]using z
     refine cM ?_;have e0:dY c=eG W c:=by show (if c.halt≠0 then c else eG c.conf.width.toNat c)=_;rw[if_neg (λ q=>q h1p),hW];rfl
     have e:dY c=d:=by rw[e0, ←hG];exact pV hst
     rw[e];exact Dt (.refl _) none ⟨rfl,rfl⟩ (ghX rfl (rB (.refl _) (.clip _ _) (.refl _) (.refl _)) trivial)
    ·have hst: ¬ (d.stop=true∨(d.fetched.length:Int)≥d.conf.queue):=by have z:=h3;simpa [c2o]using z
     have hfl:d.fetched.length≤3:=by have:=nE hd.cf;omega
     refine aY<|cSR<|oR 10 rfl<|rCi rfl (QH d.prog d.fetch false hd.ok.progo (by have:=hd.prog;omega) hd.ok.fetch)<|oR 5 rfl<|rE 52<|bI<|cSR<|oR 2 rfl<|rE 54 ?_;refine aQ rfl (λ h4=>?_) (λ h4=>?_)
     ·refine cSR<|oR 16 rfl ?_;have b1:(d.fetch+4) % 4294967296≤4294967295:=aT (bG _ (by decide));refine rV (vU ((d.fetch+4) % 4294967296)) rfl<|rV (.agg [vU d.fetch,vU ((d.fetch+4) % 4294967296)]) rfl<|rV (.sl 2 ([[vU d.fetch,vU ((d.fetch+4) % 4294967296)]]) true) rfl<|rFx (x:=.osl 73 0 (d.fetched.length+1) false) (h':=upd _ 73 (some (.arr ((d.fetched++([(⟨d.fetch,(d.fetch+4) % 4294967296⟩:Ft)])).map ftL) 2))) rfl rfl (Ab ftL d.fetched ([(⟨d.fetch,(d.fetch+4) % 4294967296⟩:Ft)]) omT) (⟨by exact omT,by exact omT,trivial,trivial⟩)<|oR 3 rfl<|rSt rfl<|rE 78<|cSR<|oR 4 rfl<|rSx 0 (mcX ({d with stop:=true}:Co) (.sl 17 xR kR) (.osl 73 0 (d.fetched.length+1) false) (.sl 2 xS kS) (.sl 9 xT kT)) rfl rfl rfl<|rE 83<|cM ?_;have e0:dY c=eG W c:=by show (if c.halt≠0 then c else eG c.conf.width.toNat c)=_;rw[if_neg (λ q=>q h1p),hW];rfl
      have e:dY c={d with fetched:=d.fetched++[⟨d.fetch,up4 d.fetch⟩],stop:=true}:=by rw[e0, ←hG];exact rJ omT hst (Fv h4)
      rw[e];exact Dt (.refl _) (some (73,2,(d.fetched++([(⟨d.fetch,(d.fetch+4) % 4294967296⟩:Ft)])).map ftL)) ⟨rfl,rfl⟩ (ghX rfl (rB (.refl _) (lV (by exact omT)) (.refl _) (.refl _)) trivial)
     ·refine aY<|cSR<|oR 5 rfl<|rCi rfl (qZ d.fetch hd.ok.fetch)<|oR 1 rfl<|rE 61<|bI<|cSR<|oR 6 rfl<|rCi rfl (yL d.words (lineOf d.fetch) hd.ok.words (dJ hd.ok.fetch))<|oR 7 rfl<|rE 75<|cSR ?_;refine oR 2 rfl<|rE 77 ?_;refine aQ rfl (λ h5=>?_) (λ h5=>?_)
      ·refine bI<|cSR<|oR 6 rfl<|rV (.sl 1 ([[vI 2]]) true) rfl<|rCl (x:=vB (DI d.bus (lineOf d.fetch) 2)) rfl (.inl rfl) ((show bV C0 _ [_,_,.sl 1 ([(2:Int)].map fD) true] _ from by rw[←Jv];exact QZ d.bus (lineOf d.fetch) [2] false true (by have:=hd.bus;omega) (λ x hx=>(hd.ok.buso x hx).line) (dJ hd.ok.fetch) (by decide)))<|oR 2 rfl<|gN rfl<|gT (args:=[.ptr 0 0,vB false]) (x:=vB (qV d false)) (g:= !(DI d.bus (lineOf d.fetch) 2)) rfl rfl rfl rfl (λ h=>h) rfl rfl rfl (.inr ⟨rfl,⟨trivial,trivial,trivial⟩⟩) rfl (λ hg=>ST d nb hd (.sl 17 xR kR) (.sl 2 (d.fetched.map ftL) true) (.sl 2 xS kS) (.sl 9 xT kT) false)<|cL rfl rfl rfl (λ h=>h)<|rE 90 ?_;refine aQ rfl (λ h6=>?_) (λ h6=>?_)
       ·have hra:(DI d.bus (lineOf d.fetch) 2=false∧qV d false=true):=by have z:=h6;simpa [c2a]using z
        refine cRg<|oR 2 rfl<|fX (args:=[.ptr 0 0,vI 2,vU (lineOf d.fetch),.v (.string (⟨#[]⟩:ByteArray))]) (d:=120) _ rfl rfl rfl ((Yf d nb hd 2 (lineOf d.fetch) mR (dJ hd.ok.fetch) kR xR true (d.fetched.map ftL) kS xS kT xT).frameB (λ z=>z) _ _ rfl ⟨⟨rfl,rfl,rfl,rfl⟩,trivial⟩ rfl rfl rfl rfl) ?_;rintro _ _ ⟨rfl,rfl⟩;refine rE 93<|cM ?_;have e0:dY c=eG W c:=by show (if c.halt≠0 then c else eG c.conf.width.toNat c)=_;rw[if_neg (λ q=>q h1p),hW];rfl
        have e:dY c=iT d 2 (lineOf d.fetch) mR:=by rw[e0, ←hG];exact (nQ omT hst (sH h4) (Fv h5)).trans (if_pos hra)
        rw[e];exact Dt (.refl _) none ⟨rfl,rfl⟩ (ghX rfl (rB (.refl _) (.clip _ _) (.refl _) (.refl _)) trivial)
       ·have hra: ¬ (DI d.bus (lineOf d.fetch) 2=false∧qV d false=true):=by have z:=h6;simpa [c2a]using z
        refine aY<|cM ?_;have e0:dY c=eG W c:=by show (if c.halt≠0 then c else eG c.conf.width.toNat c)=_;rw[if_neg (λ q=>q h1p),hW];rfl
        have e:dY c=d:=by rw[e0, ←hG];exact (nQ omT hst (sH h4) (Fv h5)).trans (if_neg hra)
        rw[e];exact Dt (.refl _) none ⟨rfl,rfl⟩ (ghX rfl (rB (.refl _) (.clip _ _) (.refl _) (.refl _)) trivial)
      ·refine aY<|cSR<|oR 7 rfl<|rCi rfl (HG d.words (lineOf d.fetch) hd.ok.words (dJ hd.ok.fetch))<|oR 3 rfl<|rSx 0 (mcX ({d with words:=(oT d.words (lineOf d.fetch))}:Co) (.sl 17 xR kR) (.sl 2 (d.fetched.map ftL) true) (.sl 2 xS kS) (.sl 9 xT kT)) rfl rfl rfl<|rE 89<|cSR<|oR 2 rfl<|fX (args:=[.ptr 0 0,vU (fetchW d.prog d.fetch)]) (d:=134) _ rfl rfl rfl ((VV (gY d) nb (As hd) (fetchW d.prog d.fetch) (HA hd.ok.progo d.fetch) kR xR true (d.fetched.map ftL) kS xS kT xT).frameB (λ z=>z) _ _ rfl ⟨⟨rfl,rfl,rfl,rfl⟩,trivial⟩ rfl rfl rfl rfl) ?_;rintro _ _ ⟨rfl,rfl⟩;refine oR 1 rfl<|rE 93<|cSR<|oR 12 rfl<|rV (.agg [vU ((cQ (gY d) (fetchW d.prog d.fetch)).1.fetch),vU ((cQ (gY d) (fetchW d.prog d.fetch)).2)]) rfl<|rV (.sl 2 ([[vU ((cQ (gY d) (fetchW d.prog d.fetch)).1.fetch),vU ((cQ (gY d) (fetchW d.prog d.fetch)).2)]]) true) rfl<|rFx (x:=.osl 107 0 (d.fetched.length+1) false) (h':=upd _ 107 (some (.arr ((d.fetched++([(⟨(cQ (gY d) (fetchW d.prog d.fetch)).1.fetch,(cQ (gY d) (fetchW d.prog d.fetch)).2⟩:Ft)])).map ftL) 2))) rfl rfl (Ab ftL d.fetched ([(⟨(cQ (gY d) (fetchW d.prog d.fetch)).1.fetch,(cQ (gY d) (fetchW d.prog d.fetch)).2⟩:Ft)]) omT) (⟨by exact omT,by exact omT,trivial,trivial⟩)<|oR 3 rfl<|rSt rfl<|rE 112<|cRg<|oR 5 rfl<|rSx 0 (mcX ({ (cQ (gY d) (fetchW d.prog d.fetch)).1 with fetch:=(cQ (gY d) (fetchW d.prog d.fetch)).2}:Co) (.sl 17 xR kR) (.osl 107 0 (d.fetched.length+1) false) (.sl 2 xS kS) (.sl 9 xT kT)) rfl rfl rfl<|rE 118<|cRg ?_;have b2:k+1≤3:=aF hkB (aC 1);refine rW (vN (k+1)) rfl (okI (bL b2 rfl))<|oR 1 rfl<|rE 120 ?_;refine .mk _ (.refl _) ⟨(k+1,ab9 d,true),λ i=>match i with|14=>107|i=>i,Weak.of_lists _ wT ⟨⟨rfl,(congrArg (λ z:Nat=>some (Blk.box (mcX (ab9 d) (.sl 17 xR kR) (.osl 107 0 z false) (.sl 2 xS kS) (.sl 9 xT kT)))) (show d.fetched.length+1=(ab9 d).fetched.length from by rw[tQ];simp)),rfl⟩,⟨rfl,(congrArg (λ z:List Ft=>some (Blk.arr (z.map ftL) 2)) (tQ d).symm),rfl⟩,trivial⟩ rfl,rfl,⟨by omega,acA hd omT,(tG omT hst (sH h4) (sH h5)).trans hG⟩,by show W - (k+1)<W - k;omega⟩
   ·have h2p:=aD h2;refine dR ?_;have e0:dY c=eG W c:=by show (if c.halt≠0 then c else eG c.conf.width.toNat c)=_;rw[if_neg (λ q=>q h1p),hW];rfl
    have e:dY c=d:=by rw[e0, ←hG];rw[show W - k=0 by omega];rfl
    rw[e];exact Dt (.refl _) none ⟨rfl,rfl⟩ (ghX rfl (rB (.refl _) (.clip _ _) (.refl _) (.refl _)) trivial)
  ·have hkn:k≤W:=hk.1;have hkB:k≤2:=by omega
   have hd:d.okM nb:=hk.2.1;have hG:eG (W - k) d=eG W c:=hk.2.2;refine cSR<|rV (vB (decide ((k:Int)<c.conf.width))) rfl<|rE 16<|bI ?_;refine aQ rfl (λ h7=>?_) (λ h7=>?_)
   ·have h7p:=of_decide_eq_true h7;refine aY<|bI<|bE<|bI<|cSR<|oR 6 rfl<|gN rfl<|gS rfl id<|gS rfl id<|gS rfl id<|gS rfl id<|gBS (x:=vI (d.fetched.length:Int)) rfl id rfl<|gN rfl<|gS rfl id<|gS rfl id ?_;refine gS rfl id<|gS rfl id<|gS rfl id<|gBS (x:=vB (decide ((d.fetched.length:Int)≥d.conf.queue))) rfl hsT rfl<|cL rfl rfl rfl (by simp)<|rE 36 ?_;refine aQ rfl (λ h8=>?_) (λ h8=>?_)
    ·have hst:(d.stop=true∨(d.fetched.length:Int)≥d.conf.queue):=by have z:=h8;simpa [c2o]using z
     refine cM ?_;have e0:dY c=eG W c:=by show (if c.halt≠0 then c else eG c.conf.width.toNat c)=_;rw[if_neg (λ q=>q h1p),hW];rfl
     have e:dY c=d:=by rw[e0, ←hG];exact pV hst
     rw[e];exact Dt (.refl _) (some (14,2,d.fetched.map ftL)) ⟨rfl,rfl⟩ (ghX rfl (rB (.refl _) (lV (by exact omT)) (.refl _) (.refl _)) trivial)
    ·have hst: ¬ (d.stop=true∨(d.fetched.length:Int)≥d.conf.queue):=by have z:=h8;simpa [c2o]using z
     have hfl:d.fetched.length≤3:=by have:=nE hd.cf;omega
     refine aY<|cSR<|oR 10 rfl<|rCi rfl (QH d.prog d.fetch false hd.ok.progo (by have:=hd.prog;omega) hd.ok.fetch)<|oR 5 rfl<|rE 52<|bI<|cSR<|oR 2 rfl<|rE 54 ?_;refine aQ rfl (λ h9=>?_) (λ h9=>?_)
     ·refine cSR<|oR 16 rfl ?_;have b3:(d.fetch+4) % 4294967296≤4294967295:=aT (bG _ (by decide));refine rV (vU ((d.fetch+4) % 4294967296)) rfl<|rV (.agg [vU d.fetch,vU ((d.fetch+4) % 4294967296)]) rfl<|rV (.sl 2 ([[vU d.fetch,vU ((d.fetch+4) % 4294967296)]]) true) rfl<|rFx (x:=.osl 73 0 (d.fetched.length+1) false) (h':=upd (upd _ 14 none) 73 (some (.arr ((d.fetched++([(⟨d.fetch,(d.fetch+4) % 4294967296⟩:Ft)])).map ftL) 2))) rfl rfl (gV ftL d.fetched ([(⟨d.fetch,(d.fetch+4) % 4294967296⟩:Ft)]) omT omT) (⟨by exact omT,by exact omT,trivial⟩)<|oR 3 rfl<|rSt rfl<|rE 78<|cSR<|oR 4 rfl<|rSx 0 (mcX ({d with stop:=true}:Co) (.sl 17 xR kR) (.osl 73 0 (d.fetched.length+1) false) (.sl 2 xS kS) (.sl 9 xT kT)) rfl rfl rfl<|rE 83<|cM ?_;have e0:dY c=eG W c:=by show (if c.halt≠0 then c else eG c.conf.width.toNat c)=_;rw[if_neg (λ q=>q h1p),hW];rfl
      have e:dY c={d with fetched:=d.fetched++[⟨d.fetch,up4 d.fetch⟩],stop:=true}:=by rw[e0, ←hG];exact rJ omT hst (Fv h9)
      rw[e];exact Dt (.refl _) (some (73,2,(d.fetched++([(⟨d.fetch,(d.fetch+4) % 4294967296⟩:Ft)])).map ftL)) ⟨rfl,rfl⟩ (ghX rfl (rB (.refl _) (lV (by exact omT)) (.refl _) (.refl _)) trivial)
     ·refine aY<|cSR<|oR 5 rfl<|rCi rfl (qZ d.fetch hd.ok.fetch)<|oR 1 rfl<|rE 61<|bI<|cSR<|oR 6 rfl<|rCi rfl (yL d.words (lineOf d.fetch) hd.ok.words (dJ hd.ok.fetch))<|oR 7 rfl<|rE 75<|cSR ?_;refine oR 2 rfl<|rE 77 ?_;refine aQ rfl (λ h10=>?_) (λ h10=>?_)
      ·refine bI<|cSR<|oR 6 rfl<|rV (.sl 1 ([[vI 2]]) true) rfl<|rCl (x:=vB (DI d.bus (lineOf d.fetch) 2)) rfl (.inl rfl) ((show bV C0 _ [_,_,.sl 1 ([(2:Int)].map fD) true] _ from by rw[←Jv];exact QZ d.bus (lineOf d.fetch) [2] false true (by have:=hd.bus;omega) (λ x hx=>(hd.ok.buso x hx).line) (dJ hd.ok.fetch) (by decide)))<|oR 2 rfl<|gN rfl<|gT (args:=[.ptr 0 0,vB false]) (x:=vB (qV d false)) (g:= !(DI d.bus (lineOf d.fetch) 2)) rfl rfl rfl rfl (λ h=>h) rfl rfl rfl (.inr ⟨rfl,⟨trivial,trivial,trivial⟩⟩) rfl (λ hg=>ST d nb hd (.sl 17 xR kR) .any (.sl 2 xS kS) (.sl 9 xT kT) false)<|cL rfl rfl rfl (λ h=>h)<|rE 90 ?_;refine aQ rfl (λ h11=>?_) (λ h11=>?_)
       ·have hra:(DI d.bus (lineOf d.fetch) 2=false∧qV d false=true):=by have z:=h11;simpa [c2a]using z
        refine cRg<|oR 2 rfl<|fX (args:=[.ptr 0 0,vI 2,vU (lineOf d.fetch),.v (.string (⟨#[]⟩:ByteArray))]) (d:=120) _ rfl rfl rfl ((ZI d nb hd 2 (lineOf d.fetch) mR (dJ hd.ok.fetch) kR xR 0 d.fetched.length false (d.fetched.map ftL) kS xS kT xT).frameB (λ z=>match z with|1=>14|z=>z) _ _ rfl ⟨⟨rfl,rfl,rfl,rfl⟩,⟨rfl,rfl,rfl,rfl⟩,trivial⟩ rfl rfl rfl rfl) ?_;rintro _ _ ⟨rfl,rfl⟩;refine rE 93<|cM ?_;have e0:dY c=eG W c:=by show (if c.halt≠0 then c else eG c.conf.width.toNat c)=_;rw[if_neg (λ q=>q h1p),hW];rfl
        have e:dY c=iT d 2 (lineOf d.fetch) mR:=by rw[e0, ←hG];exact (nQ omT hst (sH h9) (Fv h10)).trans (if_pos hra)
        rw[e];exact Dt (.refl _) (some (14,2,d.fetched.map ftL)) ⟨rfl,rfl⟩ (ghX rfl (rB (.refl _) (lV (by exact omT)) (.refl _) (.refl _)) trivial)
       ·have hra: ¬ (DI d.bus (lineOf d.fetch) 2=false∧qV d false=true):=by have z:=h11;simpa [c2a]using z
        refine aY<|cM ?_;have e0:dY c=eG W c:=by show (if c.halt≠0 then c else eG c.conf.width.toNat c)=_;rw[if_neg (λ q=>q h1p),hW];rfl
        have e:dY c=d:=by rw[e0, ←hG];exact (nQ omT hst (sH h9) (Fv h10)).trans (if_neg hra)
        rw[e];exact Dt (.refl _) (some (14,2,d.fetched.map ftL)) ⟨rfl,rfl⟩ (ghX rfl (rB (.refl _) (lV (by exact omT)) (.refl _) (.refl _)) trivial)
      ·refine aY<|cSR<|oR 7 rfl<|rCi rfl (HG d.words (lineOf d.fetch) hd.ok.words (dJ hd.ok.fetch))<|oR 3 rfl<|rSx 0 (mcX ({d with words:=(oT d.words (lineOf d.fetch))}:Co) (.sl 17 xR kR) (.osl 14 0 d.fetched.length false) (.sl 2 xS kS) (.sl 9 xT kT)) rfl rfl rfl<|rE 89<|cSR<|oR 2 rfl<|fX (args:=[.ptr 0 0,vU (fetchW d.prog d.fetch)]) (d:=134) _ rfl rfl rfl ((SQ (gY d) nb (As hd) (fetchW d.prog d.fetch) (HA hd.ok.progo d.fetch) kR xR 0 d.fetched.length false (d.fetched.map ftL) kS xS kT xT).frameB (λ z=>match z with|1=>14|z=>z) _ _ rfl ⟨⟨rfl,rfl,rfl,rfl⟩,⟨rfl,rfl,rfl,rfl⟩,trivial⟩ rfl rfl rfl rfl) ?_;rintro _ _ ⟨rfl,rfl⟩;refine oR 1 rfl<|rE 93<|cSR<|oR 12 rfl<|rV (.agg [vU ((cQ (gY d) (fetchW d.prog d.fetch)).1.fetch),vU ((cQ (gY d) (fetchW d.prog d.fetch)).2)]) rfl<|rV (.sl 2 ([[vU ((cQ (gY d) (fetchW d.prog d.fetch)).1.fetch),vU ((cQ (gY d) (fetchW d.prog d.fetch)).2)]]) true) rfl<|rFx (x:=.osl 107 0 (d.fetched.length+1) false) (h':=upd (upd _ 14 none) 107 (some (.arr ((d.fetched++([(⟨(cQ (gY d) (fetchW d.prog d.fetch)).1.fetch,(cQ (gY d) (fetchW d.prog d.fetch)).2⟩:Ft)])).map ftL) 2))) rfl rfl (gV ftL d.fetched ([(⟨(cQ (gY d) (fetchW d.prog d.fetch)).1.fetch,(cQ (gY d) (fetchW d.prog d.fetch)).2⟩:Ft)]) omT omT) (⟨by exact omT,by exact omT,trivial⟩)<|oR 3 rfl<|rSt rfl<|rE 112<|cRg<|oR 5 rfl<|rSx 0 (mcX ({ (cQ (gY d) (fetchW d.prog d.fetch)).1 with fetch:=(cQ (gY d) (fetchW d.prog d.fetch)).2}:Co) (.sl 17 xR kR) (.osl 107 0 (d.fetched.length+1) false) (.sl 2 xS kS) (.sl 9 xT kT)) rfl rfl rfl<|rE 118<|cRg ?_;have b4:k+1≤3:=aF hkB (aC 1);refine rW (vN (k+1)) rfl (okI (bL b4 rfl))<|oR 1 rfl<|rE 120 ?_;refine .mk _ (.refl _) ⟨(k+1,ab9 d,true),λ i=>match i with|14=>107|i=>i,Weak.of_lists _ wT ⟨⟨rfl,(congrArg (λ z:Nat=>some (Blk.box (mcX (ab9 d) (.sl 17 xR kR) (.osl 107 0 z false) (.sl 2 xS kS) (.sl 9 xT kT)))) (show d.fetched.length+1=(ab9 d).fetched.length from by rw[tQ];simp)),rfl⟩,⟨rfl,(congrArg (λ z:List Ft=>some (Blk.arr (z.map ftL) 2)) (tQ d).symm),rfl⟩,trivial⟩ rfl,rfl,⟨by omega,acA hd omT,(tG omT hst (sH h9) (sH h10)).trans hG⟩,by show W - (k+1)<W - k;omega⟩
   ·have h7p:=aD h7;refine dR ?_;have e0:dY c=eG W c:=by show (if c.halt≠0 then c else eG c.conf.width.toNat c)=_;rw[if_neg (λ q=>q h1p),hW];rfl
    have e:dY c=d:=by rw[e0, ←hG];rw[show W - k=0 by omega];rfl
    rw[e];exact Dt (.refl _) (some (14,2,d.fetched.map ftL)) ⟨rfl,rfl⟩ (ghX rfl (rB (.refl _) (lV (by exact omT)) (.refl _) (.refl _)) trivial)
theorem PF{no:Int}{f:Ft}{prog:List Nat}(hf:f.ok):(qT no f prog).ok:=by
 have hi:(fP (fetchW prog f.pc)).imm≤4294967295:=aT (Ij _);unfold qT
 repeat' split
 all_goals first|exact⟨hf.pc,aE _,hf.guess,aE _,aE _,aE _⟩|exact⟨hf.pc,hi,hf.guess,aE _,zC _,aE _⟩|exact⟨hf.pc,hi,hf.guess,aE _,aE _,aE _⟩|exact⟨hf.pc,hi,hf.guess,aE _,hf.pc,aE _⟩
def Gg(d:Co)(f:Ft):Co:={d with rob:=d.rob++[qT d.next f d.prog],next:=wrap64 (d.next+1),fetched:=d.fetched.drop 1}
theorem rI{d:Co}{n:Nat}(h:(d.rob.length:Int)≥d.conf.rob∨d.fetched.length=0):jM n d=d:=by
 cases n with
 |zero=>rfl
 | succ n=>
  unfold jM;by_cases h1:(d.rob.length:Int)≥d.conf.rob
  ·exact if_pos h1
  ·rw[if_neg h1];have hz:d.fetched=[]:=bB (h.resolve_left h1);rw[hz]
theorem uU{d:Co}{n k:Nat}{f:Ft}(hn:k<n)(h: ¬ (d.rob.length:Int)≥d.conf.rob)(hf:d.fetched[0]?=some f):jM (n - (k+1)) (Gg d f)=jM (n - k) d:=by
 rw[show n - k=(n - (k+1))+1 by omega]
 conv=>rhs;unfold jM
 rw[if_neg h];unfold Gg
 cases hz:d.fetched with
 |nil=>rw[hz]at hf;cases hf
 |cons y l=>rw[hz]at hf;injection hf with hf;subst hf;rfl
theorem Cz{c:Co}{n:Nat}{f:Ft}(h:c.okM n)(hf:f.ok)(hr:c.rob.length≤999):(Gg c f).okM n:=by
 have hl:(c.rob++[qT c.next f c.prog]).length≤1000:=by simp;omega
 have hd:(c.fetched.drop 1).length≤1000:=by have:=h.fet;rw[aX];omega
 exact⟨⟨h.ok.conf,h.ok.prog,h.ok.progo,h.ok.r,h.ok.fetch,aN hd (by decide),HL h.ok.feto,aN hl (by decide),oP h.ok.robo (oQ (P:=Ent.ok) (PF hf)),h.ok.sto,h.ok.stoo,h.ok.data,h.ok.words,h.ok.bus,h.ok.buso,h.ok.asked,h.ok.guessed,h.ok.mem,h.ok.guess,h.ok.ret,h.ok.reto⟩,h.nb,h.cf,h.data,h.words,h.guess,hl,hd,h.sto,h.prog,h.mem,h.std⟩
theorem UM(rob:List Ent)(ck:Bool)(no:Int)(f:Ft)(prog:List Nat)(hl:rob.length≤1000)(ho:∀ x∈rob,x.ok)(hf:f.ok)(hp:∀ x∈prog,x≤4294967295)(hpl:prog.length≤1000000):bV C0 112 [.sl 17 (rob.map enL) ck,vI no,.agg (ftL f),.sl 1 (prog.map dI) false] (.sl 17 ((rob++[qT no f prog]).map enL) false):=by
 refine dc1 (bV.intro c1Ok Tryz.func112 rfl rfl (by kernel_rfl) rfl ?_);refine cSR<|rAl 0 rfl rfl<|oR 1 rfl<|rE 2<|cSR<|oR 5 rfl<|rV (.agg [vI no,vU f.pc,vI 0,vI 0,vI 0,vI 0,zU,vU f.guess,vI 0,vI 0,zU,zU,zU,vI 0,vI 0,vB false,vB false]) rfl<|rAl 8 rfl rfl<|rSt rfl<|rE 10<|cSR<|oR 3 rfl<|rCi rfl (QH prog f.pc false hp hpl hf.pc) ?_;refine oR 5 rfl<|rE 19<|cSR<|oR 1 rfl<|rCi rfl (Lt (fetchW prog f.pc) (BX (HA hp f.pc)))<|oR 3 rfl<|rAl 24 rfl rfl<|rSt rfl<|oR 1 rfl<|rE 27<|bI<|bE<|cSR<|oR 3 rfl ?_;refine rE 30 ?_;refine aQ rfl (λ h1=>?_) (λ h1=>?_)
 ·refine cRg<|oR 1 rfl<|rSt rfl<|rE 32<|bI<|cSR<|oR 2 rfl<|rV (vB (1 != 0)) rfl<|rE 35 ?_;refine aQ rfl (λ _=>?_) (λ h2=>by exact absurd h2 (by decide));refine cRg<|oR 1 rfl<|rSt rfl<|rE 37<|cSR<|oR 2 rfl<|rW (vN rob.length) rfl (bJ enL rob)<|oR 1 rfl<|rW (vN rob.length) rfl (bJ enL rob) ?_;refine nW (.sl 17 ((rob.take rob.length).map enL) true) rfl (uI (rL enL rob rob.length)) (by refine⟨?_,?_,?_,?_⟩;all_goals (first|exact aG _|decide|(apply Fg.2;exact omT)|(show (_:Int)=(_:Int);congr 1;omega)|rfl)) ?_;refine oR 1 rfl<|rV (.sl 17 ([[vI no,vU f.pc,vI 0,vI 0,vI 0,vI 0,zU,vU f.guess,vI 3,vI 0,zU,zU,zU,vI 1,vI 0,vB false,vB false]]) true) rfl<|rFx (x:=.osl 45 0 (rob.length+1) false) (h':=upd _ 45 (some (.arr (((rob.take rob.length)++([(⟨no,f.pc,⟨0,0,0,0,0⟩,f.guess,3,0,0,0,0,1,0,false,false⟩:Ent)])).map enL) 17))) rfl rfl (Ab enL (rob.take rob.length) ([(⟨no,f.pc,⟨0,0,0,0,0⟩,f.guess,3,0,0,0,0,1,0,false,false⟩:Ent)]) omT) (⟨by exact omT,by exact omT,trivial,trivial⟩)<|oR 1 rfl<|rE 47<|cM ?_;have e:(⟨no,f.pc,⟨0,0,0,0,0⟩,f.guess,3,0,0,0,0,1,0,false,false⟩:Ent)=qT no f prog:=by unfold qT;rw[if_pos (Fv h1)];rfl
  refine eW rfl (by show 0+(rob.length+1)≤(((rob.take rob.length)++([(⟨no,f.pc,⟨0,0,0,0,0⟩,f.guess,3,0,0,0,0,1,0,false,false⟩:Ent)])).map enL).length;exact omT) rfl ?_;show AV.sl 17 (List.take (rob.length+1) (List.drop 0 (((rob.take rob.length)++([(⟨no,f.pc,⟨0,0,0,0,0⟩,f.guess,3,0,0,0,0,1,0,false,false⟩:Ent)])).map enL))) false=_;rw[kI enL ((rob.take rob.length)++([(⟨no,f.pc,⟨0,0,0,0,0⟩,f.guess,3,0,0,0,0,1,0,false,false⟩:Ent)])) omT];rw[e,cX]
 ·refine cSR<|oR 1 rfl<|rW (vB ((decE (fetchW prog f.pc)) != 0)) rfl (okB (neN _ _))<|oR 1 rfl<|rE 33 ?_;refine aQ rfl (λ h3=>?_) (λ h3=>?_)
  ·have h3p:=wX h3;refine cRg<|oR 1 rfl<|rSt rfl<|rE 35<|bI<|cSR<|oR 2 rfl<|rV (vB (2 != 0)) rfl<|rE 38 ?_;refine aQ rfl (λ _=>?_) (λ h4=>by exact absurd h4 (by decide));refine cRg<|oR 1 rfl<|rSt rfl<|rE 40<|cSR<|oR 2 rfl<|rW (vN rob.length) rfl (bJ enL rob)<|oR 1 rfl<|rW (vN rob.length) rfl (bJ enL rob) ?_;refine nW (.sl 17 ((rob.take rob.length).map enL) true) rfl (uI (rL enL rob rob.length)) (by refine⟨?_,?_,?_,?_⟩;all_goals (first|exact aG _|decide|(apply Fg.2;exact omT)|(show (_:Int)=(_:Int);congr 1;omega)|rfl)) ?_;refine oR 1 rfl<|rV (.sl 17 ([[vI no,vU f.pc,vI 0,vI 0,vI 0,vI 0,zU,vU f.guess,vI 3,vI 0,zU,zU,zU,vI 2,vI 0,vB false,vB false]]) true) rfl<|rFx (x:=.osl 48 0 (rob.length+1) false) (h':=upd _ 48 (some (.arr (((rob.take rob.length)++([(⟨no,f.pc,⟨0,0,0,0,0⟩,f.guess,3,0,0,0,0,2,0,false,false⟩:Ent)])).map enL) 17))) rfl rfl (Ab enL (rob.take rob.length) ([(⟨no,f.pc,⟨0,0,0,0,0⟩,f.guess,3,0,0,0,0,2,0,false,false⟩:Ent)]) omT) (⟨by exact omT,by exact omT,trivial,trivial⟩)<|oR 1 rfl<|rE 50<|cM ?_;have e:(⟨no,f.pc,⟨0,0,0,0,0⟩,f.guess,3,0,0,0,0,2,0,false,false⟩:Ent)=qT no f prog:=by unfold qT;rw[if_neg (sH h1),if_pos (by have q:=CZ (fetchW prog f.pc);omega)];rfl
   refine eW rfl (by show 0+(rob.length+1)≤(((rob.take rob.length)++([(⟨no,f.pc,⟨0,0,0,0,0⟩,f.guess,3,0,0,0,0,2,0,false,false⟩:Ent)])).map enL).length;exact omT) rfl ?_;show AV.sl 17 (List.take (rob.length+1) (List.drop 0 (((rob.take rob.length)++([(⟨no,f.pc,⟨0,0,0,0,0⟩,f.guess,3,0,0,0,0,2,0,false,false⟩:Ent)])).map enL))) false=_;rw[kI enL ((rob.take rob.length)++([(⟨no,f.pc,⟨0,0,0,0,0⟩,f.guess,3,0,0,0,0,2,0,false,false⟩:Ent)])) omT];rw[e,cX]
  ·have h3p:=wY h3;refine cSR<|oR 2 rfl<|rSt rfl<|rE 36<|cSR<|oR 2 rfl<|rE 38<|bE<|cSR<|rV (vB (((fP (fetchW prog f.pc)).op)==47)) rfl<|oR 1 rfl<|rE 40 ?_;refine aQ rfl (λ h5=>?_) (λ h5=>?_)
   ·have h5p:=mO h5;refine cRg<|oR 1 rfl<|rSt rfl<|rE 42<|bI<|cSR<|oR 2 rfl<|rV (vB (6 != 0)) rfl<|rE 45 ?_;refine aQ rfl (λ _=>?_) (λ h6=>by exact absurd h6 (by decide));refine cRg<|oR 1 rfl<|rSt rfl<|rE 47<|cSR<|oR 2 rfl<|rW (vN rob.length) rfl (bJ enL rob)<|oR 1 rfl<|rW (vN rob.length) rfl (bJ enL rob) ?_;refine nW (.sl 17 ((rob.take rob.length).map enL) true) rfl (uI (rL enL rob rob.length)) (by refine⟨?_,?_,?_,?_⟩;all_goals (first|exact aG _|decide|(apply Fg.2;exact omT)|(show (_:Int)=(_:Int);congr 1;omega)|rfl)) ?_;refine oR 1 rfl<|rV (.sl 17 ([[vI no,vU f.pc,vI ((fP (fetchW prog f.pc)).op),vI ((fP (fetchW prog f.pc)).rd),vI ((fP (fetchW prog f.pc)).rs1),vI ((fP (fetchW prog f.pc)).rs2),vU ((fP (fetchW prog f.pc)).imm),vU f.guess,vI 3,vI 0,zU,zU,zU,vI 6,vI 0,vB false,vB false]]) true) rfl<|rFx (x:=.osl 55 0 (rob.length+1) false) (h':=upd _ 55 (some (.arr (((rob.take rob.length)++([(⟨no,f.pc,fP (fetchW prog f.pc),f.guess,3,0,0,0,0,6,0,false,false⟩:Ent)])).map enL) 17))) rfl rfl (Ab enL (rob.take rob.length) ([(⟨no,f.pc,fP (fetchW prog f.pc),f.guess,3,0,0,0,0,6,0,false,false⟩:Ent)]) omT) (⟨by exact omT,by exact omT,trivial,trivial⟩)<|oR 1 rfl<|rE 57<|cM ?_;have e:(⟨no,f.pc,fP (fetchW prog f.pc),f.guess,3,0,0,0,0,6,0,false,false⟩:Ent)=qT no f prog:=by unfold qT;rw[if_neg (sH h1),if_neg ((CZ _).1 h3p),if_pos h5p];rfl
    refine eW rfl (by show 0+(rob.length+1)≤(((rob.take rob.length)++([(⟨no,f.pc,fP (fetchW prog f.pc),f.guess,3,0,0,0,0,6,0,false,false⟩:Ent)])).map enL).length;exact omT) rfl ?_;show AV.sl 17 (List.take (rob.length+1) (List.drop 0 (((rob.take rob.length)++([(⟨no,f.pc,fP (fetchW prog f.pc),f.guess,3,0,0,0,0,6,0,false,false⟩:Ent)])).map enL))) false=_;rw[kI enL ((rob.take rob.length)++([(⟨no,f.pc,fP (fetchW prog f.pc),f.guess,3,0,0,0,0,6,0,false,false⟩:Ent)])) omT];rw[e,cX]
   ·have h5p:=mP h5;refine cSR<|rV (vB (((fP (fetchW prog f.pc)).op)==48)) rfl<|oR 1 rfl<|rE 42 ?_;refine aQ rfl (λ h7=>?_) (λ h7=>?_)
    ·have h7p:=mO h7;refine cRg<|oR 1 rfl<|rSt rfl<|rE 44<|bI<|cSR<|oR 2 rfl<|rV (vB (7 != 0)) rfl<|rE 47 ?_;refine aQ rfl (λ _=>?_) (λ h8=>by exact absurd h8 (by decide));refine cRg<|oR 1 rfl<|rSt rfl<|rE 49<|cSR<|oR 2 rfl<|rW (vN rob.length) rfl (bJ enL rob)<|oR 1 rfl<|rW (vN rob.length) rfl (bJ enL rob) ?_;refine nW (.sl 17 ((rob.take rob.length).map enL) true) rfl (uI (rL enL rob rob.length)) (by refine⟨?_,?_,?_,?_⟩;all_goals (first|exact aG _|decide|(apply Fg.2;exact omT)|(show (_:Int)=(_:Int);congr 1;omega)|rfl)) ?_;refine oR 1 rfl<|rV (.sl 17 ([[vI no,vU f.pc,vI ((fP (fetchW prog f.pc)).op),vI ((fP (fetchW prog f.pc)).rd),vI ((fP (fetchW prog f.pc)).rs1),vI ((fP (fetchW prog f.pc)).rs2),vU ((fP (fetchW prog f.pc)).imm),vU f.guess,vI 3,vI 0,zU,zU,zU,vI 7,vI 0,vB false,vB false]]) true) rfl<|rFx (x:=.osl 57 0 (rob.length+1) false) (h':=upd _ 57 (some (.arr (((rob.take rob.length)++([(⟨no,f.pc,fP (fetchW prog f.pc),f.guess,3,0,0,0,0,7,0,false,false⟩:Ent)])).map enL) 17))) rfl rfl (Ab enL (rob.take rob.length) ([(⟨no,f.pc,fP (fetchW prog f.pc),f.guess,3,0,0,0,0,7,0,false,false⟩:Ent)]) omT) (⟨by exact omT,by exact omT,trivial,trivial⟩)<|oR 1 rfl<|rE 59<|cM ?_;have e:(⟨no,f.pc,fP (fetchW prog f.pc),f.guess,3,0,0,0,0,7,0,false,false⟩:Ent)=qT no f prog:=by unfold qT;rw[if_neg (sH h1),if_neg ((CZ _).1 h3p),if_neg h5p,if_pos h7p];rfl
     refine eW rfl (by show 0+(rob.length+1)≤(((rob.take rob.length)++([(⟨no,f.pc,fP (fetchW prog f.pc),f.guess,3,0,0,0,0,7,0,false,false⟩:Ent)])).map enL).length;exact omT) rfl ?_;show AV.sl 17 (List.take (rob.length+1) (List.drop 0 (((rob.take rob.length)++([(⟨no,f.pc,fP (fetchW prog f.pc),f.guess,3,0,0,0,0,7,0,false,false⟩:Ent)])).map enL))) false=_;rw[kI enL ((rob.take rob.length)++([(⟨no,f.pc,fP (fetchW prog f.pc),f.guess,3,0,0,0,0,7,0,false,false⟩:Ent)])) omT];rw[e,cX]
    ·have h7p:=mP h7;refine aY<|bI<|cSR<|oR 2 rfl<|rV (vB (0 != 0)) rfl<|rE 45 ?_;refine aQ rfl (λ h9=>by exact absurd h9 (by decide)) (λ _=>?_);refine aY<|cSR<|oR 2 rfl<|rW (vN rob.length) rfl (bJ enL rob)<|oR 1 rfl<|rW (vN rob.length) rfl (bJ enL rob) ?_;refine nW (.sl 17 ((rob.take rob.length).map enL) true) rfl (uI (rL enL rob rob.length)) (by refine⟨?_,?_,?_,?_⟩;all_goals (first|exact aG _|decide|(apply Fg.2;exact omT)|(show (_:Int)=(_:Int);congr 1;omega)|rfl)) ?_;refine oR 1 rfl<|rV (.sl 17 ([[vI no,vU f.pc,vI ((fP (fetchW prog f.pc)).op),vI ((fP (fetchW prog f.pc)).rd),vI ((fP (fetchW prog f.pc)).rs1),vI ((fP (fetchW prog f.pc)).rs2),vU ((fP (fetchW prog f.pc)).imm),vU f.guess,vI 0,vI 0,zU,zU,zU,vI 0,vI 0,vB false,vB false]]) true) rfl<|rFx (x:=.osl 53 0 (rob.length+1) false) (h':=upd _ 53 (some (.arr (((rob.take rob.length)++([(⟨no,f.pc,fP (fetchW prog f.pc),f.guess,0,0,0,0,0,0,0,false,false⟩:Ent)])).map enL) 17))) rfl rfl (Ab enL (rob.take rob.length) ([(⟨no,f.pc,fP (fetchW prog f.pc),f.guess,0,0,0,0,0,0,0,false,false⟩:Ent)]) omT) (⟨by exact omT,by exact omT,trivial,trivial⟩)<|oR 1 rfl<|rE 55<|cM ?_;have e:(⟨no,f.pc,fP (fetchW prog f.pc),f.guess,0,0,0,0,0,0,0,false,false⟩:Ent)=qT no f prog:=by unfold qT;rw[if_neg (sH h1),if_neg ((CZ _).1 h3p),if_neg h5p,if_neg h7p];rfl
     refine eW rfl (by show 0+(rob.length+1)≤(((rob.take rob.length)++([(⟨no,f.pc,fP (fetchW prog f.pc),f.guess,0,0,0,0,0,0,0,false,false⟩:Ent)])).map enL).length;exact omT) rfl ?_;show AV.sl 17 (List.take (rob.length+1) (List.drop 0 (((rob.take rob.length)++([(⟨no,f.pc,fP (fetchW prog f.pc),f.guess,0,0,0,0,0,0,0,false,false⟩:Ent)])).map enL))) false=_;rw[kI enL ((rob.take rob.length)++([(⟨no,f.pc,fP (fetchW prog f.pc),f.guess,0,0,0,0,0,0,0,false,false⟩:Ent)])) omT];rw[e,cX]
theorem VU(c:Co)(nb:Nat)(hm:c.okM nb)(kS:Bool)(xS:List (List AV))(kT:Bool)(xT:List (List AV)):qF C0.P C0.G 56 [.ptr 0 0] (heapF [(0,.box (mcX c (.sl 17 (c.rob.map enL) false) (.sl 2 (c.fetched.map ftL) true) (.sl 2 xS kS) (.sl 9 xT kT)))]) 1 (λ x h'=>x=.tup []∧h'=heapF [(0,.box (mcX (iP c) (.sl 17 ((iP c).rob.map enL) false) (.sl 2 ((iP c).fetched.map ftL) true) (.sl 2 xS kS) (.sl 9 xT kT)))]):=by
 refine HCall.intro (C:=C1) (s:=1) c1Ok.at Tryz.func56 rfl rfl (by kernel_rfl) rfl rfl ?_;obtain⟨W,hW,hW2⟩:∃ W:Nat,c.conf.width=(W:Int)∧W≤2:=⟨c.conf.width.toNat,by have:=nE hm.cf;omega,by have:=nE hm.cf;omega⟩;refine bI<|cSR<|oR 5 rfl<|rV (vB (c.halt != 0)) rfl<|rE 7 ?_;refine aQ rfl (λ h1=>?_) (λ h1=>?_)
 ·have h1p:=wX h1;refine cM ?_;have e:iP c=c:=if_pos h1p;rw[e];exact pP (rs:=[]) rfl (σ:=λ z=>z) ⟨rfl,rfl⟩ rfl (cH (λ z=>z) rfl rfl wH rfl)
 ·have h1p:=wY h1;refine aY<|cSR<|oR 7 rfl<|rE 14<|bE<|sW (κ:=Nat×Co×Bool) (λ z_=>match z_ with|(k,d,false)=>⟨slotsF [(0,.ptr 0 0),(7,vB (c.halt != 0)),(13,vI c.conf.width),(14,vN k)],heapF [(0,.box (mcX d (.sl 17 (d.rob.map enL) false) (.sl 2 (d.fetched.map ftL) true) (.sl 2 xS kS) (.sl 9 xT kT)))],14⟩|(k,d,true)=>⟨slotsF [(0,.ptr 0 0),(7,vB (c.halt != 0)),(13,vI c.conf.width),(14,vN k)],heapF [(0,.box (mcX d (.sl 17 (d.rob.map enL) false) (.sl 2 (d.fetched.map ftL) true) (.sl 2 xS kS) (.sl 9 xT kT)))],14⟩) (λ z_=>match z_ with|(k,d,_)=>k≤W∧d.okM nb∧jM (W - k) d=jM W c) (λ z_=>W - z_.1) (0,c,false) (λ s=>s) (Weak.of_lists (λ s=>s) wT wH rfl) rfl (⟨aE _,hm,rfl⟩) ?_;intro z_ hk;obtain⟨k,d,b_⟩:=z_;cases b_
  ·have hkn:k≤W:=hk.1;have hkB:k≤2:=by omega
   have hd:d.okM nb:=hk.2.1;have hG:jM (W - k) d=jM W c:=hk.2.2;refine cSR<|rV (vB (decide ((k:Int)<c.conf.width))) rfl<|rE 15<|bI ?_;refine aQ rfl (λ h2=>?_) (λ h2=>?_)
   ·have h2p:=of_decide_eq_true h2;refine aY<|bI<|bE<|bI<|cSR<|oR 5 rfl<|rW (vN d.rob.length) rfl (bJ enL d.rob)<|oR 6 rfl<|rV (vB (decide (((d.rob.length:Nat):Int)≥d.conf.rob))) rfl<|oR 1 rfl<|gN rfl<|gS rfl id<|gS rfl id<|gS rfl id<|gS rfl id ?_;refine gBS (x:=vN d.fetched.length) rfl id (bJ ftL d.fetched)<|gBS (x:=vB (d.fetched.length==0)) rfl id (okB (eqN _ _))<|cL rfl rfl rfl (by simp)<|rE 37 ?_;refine aQ rfl (λ h3=>?_) (λ h3=>?_)
    ·have hst:((d.rob.length:Int)≥d.conf.rob∨d.fetched.length=0):=by have z:=h3;simpa [c2o]using z
     refine cM ?_;have e0:iP c=jM W c:=by show (if c.halt≠0 then c else jM c.conf.width.toNat c)=_;rw[if_neg (λ q=>q h1p),hW];rfl
     have e:iP c=d:=by rw[e0, ←hG];exact rI hst
     rw[e];exact pP (rs:=[]) rfl (σ:=λ z=>z) ⟨rfl,rfl⟩ rfl (cH (λ z=>z) rfl rfl wH rfl)
    ·have hst: ¬ ((d.rob.length:Int)≥d.conf.rob∨d.fetched.length=0):=by have z:=h3;simpa [c2o]using z
     have hrl:d.rob.length≤7:=by have:=nE hd.cf;omega
     have hfl:0<d.fetched.length:=by omega
     refine aY<|cSR<|oR 16 rfl ?_;obtain⟨f,hf⟩:∃ y_,d.fetched[0]?=some y_:=⟨_,aA omT⟩;have hfo:=hd.ok.feto f (aB hf);refine Fi (ftL f) (x:=.dp 2 0 (ftL f)) rfl rfl rfl (⟨by decide,fM hf⟩) rfl<|oR 6 rfl<|rCi rfl (UM d.rob false d.next f d.prog hd.rob hd.ok.robo hfo hd.ok.progo (by have:=hd.prog;omega))<|oR 3 rfl<|rSt rfl<|rE 65<|cSR<|oR 5 rfl<|rW (vI (wrap64 (d.next+1))) rfl (okI (w64 _))<|oR 3 rfl<|rSt rfl<|rE 75<|cRg<|oR 6 rfl ?_;refine nW (.sl 2 ((d.fetched.drop 1).map ftL) true) rfl (uI (JD ftL d.fetched 1)) slT ?_;refine oR 3 rfl<|rSx 0 (mcX ({d with next:=wrap64 (d.next+1)}:Co) (.sl 17 ((d.rob++[qT d.next f d.prog]).map enL) false) (.sl 2 ((d.fetched.drop 1).map ftL) true) (.sl 2 xS kS) (.sl 9 xT kT)) rfl rfl rfl<|rE 86<|cRg ?_;have b1:k+1≤3:=aF hkB (aC 1);refine rW (vN (k+1)) rfl (okI (bL b1 rfl))<|oR 1 rfl<|rE 88 ?_;refine .mk _ (.refl _) ⟨(k+1,Gg d f,false),λ i=>i,Weak.of_lists _ wT wH rfl,rfl,⟨by omega,Cz hd hfo omT,(uU omT (λ q=>hst (.inl q)) hf).trans hG⟩,by show W - (k+1)<W - k;omega⟩
   ·have h2p:=aD h2;refine dR ?_;have e0:iP c=jM W c:=by show (if c.halt≠0 then c else jM c.conf.width.toNat c)=_;rw[if_neg (λ q=>q h1p),hW];rfl
    have e:iP c=d:=by rw[e0, ←hG];rw[show W - k=0 by omega];rfl
    rw[e];exact pP (rs:=[]) rfl (σ:=λ z=>z) ⟨rfl,rfl⟩ rfl (cH (λ z=>z) rfl rfl wH rfl)
  ·have hkn:k≤W:=hk.1;have hkB:k≤2:=by omega
   have hd:d.okM nb:=hk.2.1;have hG:jM (W - k) d=jM W c:=hk.2.2;refine cSR<|rV (vB (decide ((k:Int)<c.conf.width))) rfl<|rE 15<|bI ?_;refine aQ rfl (λ h4=>?_) (λ h4=>?_)
   ·have h4p:=of_decide_eq_true h4;refine aY<|bI<|bE<|bI<|cSR<|oR 5 rfl<|rW (vN d.rob.length) rfl (bJ enL d.rob)<|oR 6 rfl<|rV (vB (decide (((d.rob.length:Nat):Int)≥d.conf.rob))) rfl<|oR 1 rfl<|gN rfl<|gS rfl id<|gS rfl id<|gS rfl id<|gS rfl id ?_;refine gBS (x:=vN d.fetched.length) rfl id (bJ ftL d.fetched)<|gBS (x:=vB (d.fetched.length==0)) rfl id (okB (eqN _ _))<|cL rfl rfl rfl (by simp)<|rE 37 ?_;refine aQ rfl (λ h5=>?_) (λ h5=>?_)
    ·have hst:((d.rob.length:Int)≥d.conf.rob∨d.fetched.length=0):=by have z:=h5;simpa [c2o]using z
     refine cM ?_;have e0:iP c=jM W c:=by show (if c.halt≠0 then c else jM c.conf.width.toNat c)=_;rw[if_neg (λ q=>q h1p),hW];rfl
     have e:iP c=d:=by rw[e0, ←hG];exact rI hst
     rw[e];exact pP (rs:=[]) rfl (σ:=λ z=>z) ⟨rfl,rfl⟩ rfl (cH (λ z=>z) rfl rfl wH rfl)
    ·have hst: ¬ ((d.rob.length:Int)≥d.conf.rob∨d.fetched.length=0):=by have z:=h5;simpa [c2o]using z
     have hrl:d.rob.length≤7:=by have:=nE hd.cf;omega
     have hfl:0<d.fetched.length:=by omega
     refine aY<|cSR<|oR 16 rfl ?_;obtain⟨f,hf⟩:∃ y_,d.fetched[0]?=some y_:=⟨_,aA omT⟩;have hfo:=hd.ok.feto f (aB hf);refine Fi (ftL f) (x:=.dp 2 0 (ftL f)) rfl rfl rfl (⟨by decide,fM hf⟩) rfl<|oR 6 rfl<|rCi rfl (UM d.rob false d.next f d.prog hd.rob hd.ok.robo hfo hd.ok.progo (by have:=hd.prog;omega))<|oR 3 rfl<|rSt rfl<|rE 65<|cSR<|oR 5 rfl<|rW (vI (wrap64 (d.next+1))) rfl (okI (w64 _))<|oR 3 rfl<|rSt rfl<|rE 75<|cRg<|oR 6 rfl ?_;refine nW (.sl 2 ((d.fetched.drop 1).map ftL) true) rfl (uI (JD ftL d.fetched 1)) slT ?_;refine oR 3 rfl<|rSx 0 (mcX ({d with next:=wrap64 (d.next+1)}:Co) (.sl 17 ((d.rob++[qT d.next f d.prog]).map enL) false) (.sl 2 ((d.fetched.drop 1).map ftL) true) (.sl 2 xS kS) (.sl 9 xT kT)) rfl rfl rfl<|rE 86<|cRg ?_;have b2:k+1≤3:=aF hkB (aC 1);refine rW (vN (k+1)) rfl (okI (bL b2 rfl))<|oR 1 rfl<|rE 88 ?_;refine .mk _ (.refl _) ⟨(k+1,Gg d f,false),λ i=>i,Weak.of_lists _ wT wH rfl,rfl,⟨by omega,Cz hd hfo omT,(uU omT (λ q=>hst (.inl q)) hf).trans hG⟩,by show W - (k+1)<W - k;omega⟩
   ·have h4p:=aD h4;refine dR ?_;have e0:iP c=jM W c:=by show (if c.halt≠0 then c else jM c.conf.width.toNat c)=_;rw[if_neg (λ q=>q h1p),hW];rfl
    have e:iP c=d:=by rw[e0, ←hG];rw[show W - k=0 by omega];rfl
    rw[e];exact pP (rs:=[]) rfl (σ:=λ z=>z) ⟨rfl,rfl⟩ rfl (cH (λ z=>z) rfl rfl wH rfl)
theorem yI(c:Co)(i:Nat)(e:Ent):(setE c i e).rob.length=c.rob.length:=bZ ..
theorem UL{e:Ent}(h:e.ok):({e with is:=2}:Ent).ok:=⟨h.pc,h.imm,h.guess,h.value,h.next,h.addr⟩
theorem VT{c:Co}{n i:Nat}{e:Ent}(h:c.okM n)(he:c.rob[i]?=some e):e.ok:=h.ok.robo e (aB he)
theorem NL{c:Co}{n:Nat}(h:c.okM n)(hb:n+1≤890000)(i:Nat):(kL c i).okM (n+1)∧(kL c i).rob.length=c.rob.length∧(kL c i).halt=c.halt∧(kL c i).stores=c.stores∧(kL c i).fetched=c.fetched∧(kL c i).retired=c.retired:=by
 have h1:c.okM (n+1):=h.mono (fO _) hb;unfold kL
 cases hx:c.rob[i]? with
 |none=>exact⟨h1,rfl,rfl,rfl,rfl,rfl⟩
 |some e=>
  have he:=VT h hx;dsimp only
  repeat' split
  ·exact⟨h1,rfl,rfl,rfl,rfl,rfl⟩
  ·exact⟨wK h1 i (Hw he _),yI ..,rfl,rfl,rfl,rfl⟩
  ·exact⟨h1,rfl,rfl,rfl,rfl,rfl⟩
  ·exact⟨wK h1 i (Hw he _),yI ..,rfl,rfl,rfl,rfl⟩
  ·exact⟨wK h1 i (UL he),yI ..,rfl,rfl,rfl,rfl⟩
  ·exact⟨wK (sF h hb 1 (dJ he.addr) mR) i (UL he),yI ..,rfl,rfl,rfl,rfl⟩
  ·exact⟨h1,rfl,rfl,rfl,rfl,rfl⟩
theorem vO{c:Co}{n:Nat}(h:c.okM n)(hb:n+1≤890000)(i:Nat):(fH c i).okM (n+1)∧(fH c i).rob.length=c.rob.length∧(fH c i).halt=c.halt∧(fH c i).stores=c.stores∧(fH c i).fetched=c.fetched∧(fH c i).retired=c.retired:=by
 have h1:c.okM (n+1):=h.mono (fO _) hb;unfold fH
 cases hx:c.rob[i]? with
 |none=>exact⟨h1,rfl,rfl,rfl,rfl,rfl⟩
 | some e=>
  have he:=VT h hx;have hB:=At h.ok.robo h.ok.r i;dsimp only;split
  ·exact⟨wK h1 i (Hv he _ _),yI ..,rfl,rfl,rfl,rfl⟩
  ·split
   ·have hl:=NL (wK h i (Hv he c.mem.size (lQ c.rob c.r i).1)) hb i;exact⟨hl.1,hl.2.1.trans (yI ..),hl.2.2.1,hl.2.2.2.1,hl.2.2.2.2.1,hl.2.2.2.2.2⟩
   ·exact⟨wK h1 i (PN he hB.1 hB.2),yI ..,rfl,rfl,rfl,rfl⟩
theorem PC{width:Int}{busy:Bool}{kinds:List Int}{can:List Bool}:∀ k,∀ i∈(iE width busy kinds can k).out,i<k
 |0,i,h=>by simp[iE]at h
 | k+1,i,h=>by
  have ih:=PC (width:=width) (busy:=busy) (kinds:=kinds) (can:=can) k;unfold iE Ds at h
  repeat' split at h
  all_goals first
   |exact nA (ih i h)
   |(simp only[al_List_mem_append,uD]at h;exact h.elim (λ h=>nA (ih i h)) (λ h=>by omega))
theorem PD{width:Int}{busy:Bool}{kinds:List Int}{can:List Bool}(hw:0≤width):∀ k,((iE width busy kinds can k).out.length:Int)≤width
 |0=>by simpa [iE]using hw
 | k+1=>by
  have ih:=PD (width:=width) (busy:=busy) (kinds:=kinds) (can:=can) hw k;unfold iE Ds
  repeat' split
  all_goals first
   |exact ih
   |(simp only[aW,kD];push_cast;omega)
theorem Mk{α:Type}{f:α→Bool}{l:List α}{k:Nat}{x:α}(h:l[k]?=some x):(l.take (k+1)).any f=((l.take k).any f||f x):=by
 rw[bS,h,List.any_append];simp
def rH(c:Co)(k:Nat):List Int:=(c.rob.take k).map (λ e=>(kindOf e.i.op:Int))++List.replicate (c.rob.length - k) 0
def wW(c:Co)(k:Nat):List Bool:=(List.range k).map (Cd c)++List.replicate (c.rob.length - k) false
theorem Gd{c:Co}{k:Nat}(h:k≤c.rob.length):(rH c k).length=c.rob.length:=by unfold rH;simp;omega
theorem Eu{c:Co}{k:Nat}(h:k≤c.rob.length):(wW c k).length=c.rob.length:=by unfold wW;simp;omega
theorem Ml{α:Type}{a:List α}{z x:α}{n k:Nat}(ha:a.length=k)(hn:0<n):(a++List.replicate n z).set k x=(a++[x])++List.replicate (n - 1) z:=by
 subst ha;obtain⟨m,rfl⟩:∃ m,n=m+1:=⟨n - 1,by omega⟩;rw[iO _ _ (aC _),fK,List.replicate_succ,gM];simp
theorem Ge{c:Co}{k:Nat}{x:Ent}(hx:c.rob[k]?=some x):(rH c k).set k (kindOf x.i.op:Int)=rH c (k+1):=by
 have hk:=(DN.1 hx).1;unfold rH;rw[Ml (by simp;omega) omT,bS,hx,Nat.sub_sub];simp
theorem Js{c:Co}{k:Nat}(hk:k<c.rob.length):(wW c k).set k (Cd c k)=wW c (k+1):=by
 unfold wW;rw[Ml (by simp) omT,kC,Nat.sub_sub];simp
theorem NM(c:Co):rH c c.rob.length=Af c:=by unfold rH Af;simp
theorem PE(c:Co):wW c c.rob.length=zB c:=by unfold wW zB;simp
theorem Ld{c:Co}{n:Nat}(h:c.rob.length=n):List.replicate n (0:Int)=rH c 0:=by subst h;rfl
theorem NN{c:Co}{n:Nat}(h:c.rob.length=n):List.replicate n false=wW c 0:=by subst h;rfl
theorem Gf{α β:Type}{f:β→α→β}{l:List α}{j:Nat}{x:α}{d:β}(h:l[j]?=some x):(l.drop (j+1)).foldl f (f d x)=(l.drop j).foldl f d:=by
 obtain⟨hj,rfl⟩:=DN.1 h;rw[bU hj];rfl
theorem zY{c:Co}{k:Nat}(hm:tK c.conf=true)(hh: ¬ c.halt≠0)(hk:k=c.rob.length):∃ p,pickOf c.conf.width ((c.rob.take k).any Dp) (rH c k) (wW c k)=p∧fF c=p.foldl fH c∧(∀ i∈p,i<c.rob.length)∧p.length≤2:=by
 subst hk;have hw:=nE hm;refine⟨_,rfl,?_,λ i hi=>?_,?_⟩
 ·rw[NM,PE,cX];exact if_neg hh
 ·have:=PC _ i hi
  rwa [Eu (aC _)]at this
 ·have:=PD (width:=c.conf.width) (busy:=(c.rob.take c.rob.length).any Dp) (kinds:=rH c c.rob.length) (can:=wW c c.rob.length) omT (wW c c.rob.length).length;unfold pickOf;omega
theorem VS(c:Co)(nb:Nat)(hm:c.okM nb)(hb:nb+3≤890000)(A B:List Ent)(lo n:Nat)(kR kF kS kT:Bool)(xF xT:List (List AV))(hlo:A.length=lo)(hn:c.rob.length=n)(hA:A.length+n+B.length≤1000):qF C0.P C0.G 55 [.ptr 0 0] (heapF [(0,.box (mcX c (.osl 1 lo n kR) (.sl 2 xF kF) (.sl 2 (c.stores.map ptL) kS) (.sl 9 xT kT))),(1,.arr ((A++c.rob++B).map enL) 17)]) 2 (λ x h'=>x=.tup []∧h'=heapF [(0,.box (mcX (fF c) (.osl 1 lo n kR) (.sl 2 xF kF) (.sl 2 ((fF c).stores.map ptL) kS) (.sl 9 xT kT))),(1,.arr ((A++(fF c).rob++B).map enL) 17)]):=by
 refine HCall.intro (C:=C1) (s:=2) c1Ok.at Tryz.func55 rfl rfl (by kernel_rfl) rfl rfl<|bI<|cSR<|oR 5 rfl<|rV (vB (c.halt != 0)) rfl<|rE 8 ?_;refine aQ rfl (λ h1=>?_) (λ h1=>?_)
 ·have h1p:=wX h1;refine cM ?_;have e:fF c=c:=if_pos h1p;rw[e];exact pP (rs:=[]) rfl (σ:=λ z=>z) ⟨rfl,rfl⟩ rfl (cH (λ z=>z) rfl rfl wH rfl)
 ·have h1p:=wY h1;refine aY<|cSR<|oR 1 rfl<|rE 9<|cSR<|oR 5 rfl<|rV (vN n) rfl<|rFx (x:=.osl 15 0 n false) (h':=upd _ 15 (some (.arr ((List.replicate n 0).map fD) 1))) rfl rfl (NT (eK (f:=fD) (a:=0)).symm) (⟨aG _,Fg.2 omT,by show (n:Int)≤1000000;omega⟩)<|oR 1 rfl<|rE 17<|cSR<|oR 5 rfl<|rV (vN n) rfl ?_;refine rFx (x:=.osl 23 0 n false) (h':=upd _ 23 (some (.arr ((List.replicate n false).map zF) 1))) rfl rfl (NT (eK (f:=zF) (a:=false)).symm) (⟨aG _,Fg.2 omT,by show (n:Int)≤1000000;omega⟩)<|oR 1 rfl<|rE 25<|Dl<|cSR<|oR 5 rfl<|rV (vN n) rfl<|oR 1 rfl<|rE 32<|bE<|sW (κ:=Nat) (λ k=>⟨slotsF [(0,.ptr 0 0),(14,vB (c.halt != 0)),(3,.osl 15 0 n false),(4,.osl 23 0 n false),(33,.osl 1 lo n kR),(34,vN n),(2,vB ((c.rob.take k).any Dp)),(35,vN k)],heapF [(0,.box (mcX c (.osl 1 lo n kR) (.sl 2 xF kF) (.sl 2 (c.stores.map ptL) kS) (.sl 9 xT kT))),(1,.arr ((A++c.rob++B).map enL) 17),(15,.arr ((rH c k).map fD) 1),(23,.arr ((wW c k).map zF) 1)],32⟩) (λ k=>k≤n) (λ k=>n - k) 0 (λ s=>s) (Weak.of_lists (λ s=>s) wT ⟨⟨rfl,rfl,rfl⟩,⟨rfl,rfl,rfl⟩,⟨rfl,(congrArg (λ z:List Int=>some (Blk.arr (z.map fD) 1)) (Ld hn)),rfl⟩,⟨rfl,(congrArg (λ z:List Bool=>some (Blk.arr (z.map zF) 1)) (NN hn)),rfl⟩,trivial⟩ rfl) rfl (aE _) ?_;intro k hk;have hkn:k≤n:=hk;have hkB:k≤1000:=by have:=hm.rob;omega
  have hkl1:(rH c k).length=n:=(Gd omT).trans hn;have hkl2:(wW c k).length=n:=(Eu omT).trans hn;refine cSR<|rW (vB (decide (k<n))) rfl (okB (ltN _ _))<|rE 33<|bI ?_;refine aQ rfl (λ h2=>?_) (λ h2=>?_)
  ·have h2p:=of_decide_eq_true h2;refine aY<|bI<|bE<|cSR<|oR 1 rfl<|nW (.ptr2 1 (lo+k) 0) rfl rfl ixT ?_;obtain⟨x,hx⟩:∃ y_,c.rob[k]?=some y_:=⟨_,aA omT⟩;have hxo:=hm.ok.robo x (aB hx);refine rIx (enL x) (.agg (enL x)) rfl rfl (fM (jK hlo hx)) rfl<|rAl 36 rfl rfl<|oR 1 rfl<|rSt rfl<|rE 39<|cSR<|oR 4 rfl<|rCi rfl (rA x.i)<|nW (.ptr2 15 (0+k) 0) rfl rfl ixT ?_;obtain⟨x1,hx1⟩:∃ y_,(rH c k)[k]?=some y_:=⟨_,aA omT⟩;have hx2:((rH c k).set k (kindOf x.i.op:Int))[k]?=some (kindOf x.i.op:Int):=aR omT;refine nP (fD x1) (h':=upd _ 15 (some (.arr (((rH c k).set k (kindOf x.i.op:Int)).map fD) 1))) rfl rfl rfl (⟨aG _,Iz (fM hx1)⟩) (vP (f:=fD) (l:=rH c k) (k:=k) (x:=(kindOf x.i.op:Int)))<|rE 46<|cSR<|oR 4 rfl<|fX (args:=[.ptr 0 0,vN k]) (d:=50) _ rfl rfl rfl (qF.of_dcall (C:=C0) (show bV C0 109 [.dp 64 0 (mcX c (.sl 17 (List.take n (List.drop lo ((A++c.rob++B).map enL))) kR) (.sl 2 xF kF) (.sl 2 (c.stores.map ptL) kS) (.sl 9 xT kT)),vN k] _ from by rw[tR (l:=c.rob) hlo (by first|exact hn|(rw[bZ];exact hn)|(simp only[bZ];exact hn))];exact Ye c nb hm (.sl 2 xF kF) (.sl 2 (c.stores.map ptL) kS) (.sl 9 xT kT) kR k omT) (by rfl) (by exact⟨⟨rfl,(r4 (r4 (r4 (r4 (r4 (r4 (r4 (r4 (r4 (r4 (r4 (r4 ⟨(by show lo+n≤((A++c.rob++B).map enL).length;simp only[aH,aW,bZ];omega),tvT⟩))))))))))))⟩,trivial,trivial⟩) (by rfl)) ?_;rintro _ _ ⟨rfl,rfl⟩;refine nW (.ptr2 23 (0+k) 0) rfl rfl ixT ?_;obtain⟨x3,hx3⟩:∃ y_,(wW c k)[k]?=some y_:=⟨_,aA omT⟩;have hx4:((wW c k).set k (Cd c k))[k]?=some (Cd c k):=aR omT;refine nP (zF x3) (h':=upd _ 23 (some (.arr (((wW c k).set k (Cd c k)).map zF) 1))) rfl rfl rfl (⟨aG _,Iz (fM hx3)⟩) (vP (f:=zF) (l:=wW c k) (k:=k) (x:=Cd c k))<|rE 53<|cSR<|oR 2 rfl<|nW (.ptr2 15 (0+k) 0) rfl rfl ixT<|rIx (fD (kindOf x.i.op:Int)) (vN (kindOf x.i.op)) rfl rfl (Iz (fM hx2)) rfl<|rW (vB ((kindOf x.i.op)==2)) rfl (okB (eqN _ _))<|oR 1 rfl<|gN rfl<|gS rfl id<|gBS (x:=vB (x.is==1)) rfl id rfl<|cL rfl rfl rfl (λ h=>h)<|rE 63 ?_;refine aQ rfl (λ h3=>?_) (λ h3=>?_)
   ·refine cRg<|oR 1 rfl<|rE 64<|cRg ?_;have b1:k+1≤1001:=aF hkB (aC 1);refine rW (vN (k+1)) rfl (okI (bL b1 rfl))<|oR 1 rfl<|rE 66 ?_;refine .mk _ (.refl _) ⟨k+1,λ s=>s,Weak.of_lists _ ⟨⟨rfl,rfl⟩,⟨rfl,rfl⟩,⟨rfl,rfl⟩,⟨rfl,rfl⟩,⟨rfl,rfl⟩,⟨rfl,rfl⟩,⟨(dH (by rw[Mk hx];have z:=h3;simp_all[c2a,Dp])),rfl⟩,⟨rfl,rfl⟩,trivial⟩ ⟨⟨rfl,rfl,rfl⟩,⟨rfl,rfl,rfl⟩,⟨rfl,(congrArg (λ z:List Int=>some (Blk.arr (z.map fD) 1)) (Ge hx)),rfl⟩,⟨rfl,(congrArg (λ z:List Bool=>some (Blk.arr (z.map zF) 1)) (Js omT)),rfl⟩,trivial⟩ rfl,rfl,by omega,by show n - (k+1)<n - k;omega⟩
   ·refine aY<|cRg ?_;have b2:k+1≤1001:=aF hkB (aC 1);refine rW (vN (k+1)) rfl (okI (bL b2 rfl))<|oR 1 rfl<|rE 65 ?_;refine .mk _ (.refl _) ⟨k+1,λ s=>s,Weak.of_lists _ ⟨⟨rfl,rfl⟩,⟨rfl,rfl⟩,⟨rfl,rfl⟩,⟨rfl,rfl⟩,⟨rfl,rfl⟩,⟨rfl,rfl⟩,⟨(dH (by rw[Mk hx];have z:=h3;simp_all[c2a,Dp])),rfl⟩,⟨rfl,rfl⟩,trivial⟩ ⟨⟨rfl,rfl,rfl⟩,⟨rfl,rfl,rfl⟩,⟨rfl,(congrArg (λ z:List Int=>some (Blk.arr (z.map fD) 1)) (Ge hx)),rfl⟩,⟨rfl,(congrArg (λ z:List Bool=>some (Blk.arr (z.map zF) 1)) (Js omT)),rfl⟩,trivial⟩ rfl,rfl,by omega,by show n - (k+1)<n - k;omega⟩
  ·have h2p:=aD h2;obtain⟨p,hp,hP,hpl,hp2⟩:=zY (k:=k) hm.cf (λ q=>q h1p) omT;refine dR<| .mk _ (.step (some (15,1,(rH c k).map fD)) (Ghost.of_lists (l:=[(0,.ptr 0 0),(14,vB (c.halt != 0)),(3,.sl 1 ((rH c k).map fD) false),(4,.osl 23 0 n false),(2,vB ((c.rob.take k).any Dp)),(36,vB (decide (k<n)))]) (hp:=[(0,.box (mcX c (.osl 1 lo n kR) (.sl 2 xF kF) (.sl 2 (c.stores.map ptL) kS) (.sl 9 xT kT))),(1,.arr ((A++c.rob++B).map enL) 17),(23,.arr ((wW c k).map zF) 1)]) rfl rfT rbT) (.step (some (23,1,(wW c k).map zF)) (Ghost.of_lists (l:=[(0,.ptr 0 0),(14,vB (c.halt != 0)),(3,.sl 1 ((rH c k).map fD) false),(4,.sl 1 ((wW c k).map zF) false),(2,vB ((c.rob.take k).any Dp)),(36,vB (decide (k<n)))]) (hp:=[(0,.box (mcX c (.osl 1 lo n kR) (.sl 2 xF kF) (.sl 2 (c.stores.map ptL) kS) (.sl 9 xT kT))),(1,.arr ((A++c.rob++B).map enL) 17)]) rfl rfT rbT) (.refl _)))<|cSR<|oR 9 rfl<|rCl (x:=.sl 1 (p.map QY) false) rfl (.inl rfl) ((by rw[←hp];exact YP c.conf.width ((c.rob.take k).any Dp) (rH c k) (wW c k) false false (by rw[Gd omT];exact hm.rob) (by rw[Eu omT];exact hm.rob)))<|rW (vN p.length) rfl (bJ QY p)<|oR 1 rfl<|rE 45<|bE<|sW (κ:=Nat×Co×Bool) (λ z_=>match z_ with|(j,d,false)=>⟨slotsF [(0,.ptr 0 0),(14,vB (c.halt != 0)),(36,vB (decide (k<n))),(72,.sl 1 (p.map QY) false),(73,vN p.length),(74,vN j)],heapF [(0,.box (mcX d (.osl 1 lo n kR) (.sl 2 xF kF) (.sl 2 (d.stores.map ptL) kS) (.sl 9 xT kT))),(1,.arr ((A++d.rob++B).map enL) 17)],45⟩|(j,d,true)=>⟨slotsF [(0,.ptr 0 0),(14,vB (c.halt != 0)),(36,vB (decide (k<n))),(72,.sl 1 (p.map QY) false),(73,vN p.length),(74,vN j)],heapF [(0,.box (mcX d (.osl 1 lo n kR) (.sl 2 xF kF) (.sl 2 (d.stores.map ptL) kS) (.sl 9 xT kT))),(1,.arr ((A++d.rob++B).map enL) 17)],45⟩) (λ z_=>match z_ with|(j,d,_)=>j≤p.length∧d.okM (nb+j)∧d.rob.length=n∧(p.drop j).foldl fH d=fF c) (λ z_=>p.length - z_.1) (0,c,false) (λ s=>s) (Weak.of_lists (λ s=>s) wT wH rfl) rfl (⟨aE _,hm,hn,hP.symm⟩) ?_;intro z_ hj;obtain⟨j,d,b_⟩:=z_;cases b_
   ·have hjn:j≤p.length:=hj.1;have hjB:j≤2:=by omega
    have hd:d.okM (nb+j):=hj.2.1;have hdn:d.rob.length=n:=hj.2.2.1;have hG:(p.drop j).foldl fH d=fF c:=hj.2.2.2;refine cSR<|rW (vB (decide (j<p.length))) rfl (okB (ltN _ _))<|rE 46<|bI ?_;refine aQ rfl (λ h4=>?_) (λ h4=>?_)
    ·have h4p:=of_decide_eq_true h4;refine aY<|bI<|bE<|cSR ?_;obtain⟨x,hx⟩:∃ y_,p[j]?=some y_:=⟨_,aA omT⟩;have hxo:=hpl x (aB hx);have hs:=vO hd omT x;refine rIx (QY x) (.dp 1 0 (QY x)) rfl rfl (fM hx) rfl<|oR 2 rfl<|rE 49<|cRg<|oR 2 rfl<|fX (args:=[.ptr 0 0,vN x]) (d:=80) _ rfl rfl rfl ((UN d (nb+j) hd x (by have:=hxo;omega) A B lo n kR kF kS kT xF xT hlo hdn hA).frameB2 (λ z=>z) _ _ rfl ⟨⟨rfl,rfl,rfl,rfl⟩,⟨rfl,rfl,rfl,rfl⟩,trivial⟩ rfl rfl rfl rfl rfl) ?_;rintro _ _ ⟨rfl,rfl⟩;refine rE 52<|cRg ?_;have b3:j+1≤3:=aF hjB (aC 1);refine rW (vN (j+1)) rfl (okI (bL b3 rfl))<|oR 1 rfl<|rE 54 ?_;refine .mk _ (.refl _) ⟨(j+1,fH d x,false),λ i=>i,Weak.of_lists _ wT ⟨⟨rfl,(congrArg (λ z:List Pt=>some (Blk.box (mcX (fH d x) (.osl 1 lo n kR) (.sl 2 xF kF) (.sl 2 (z.map ptL) kS) (.sl 9 xT kT)))) hs.2.2.2.1.symm),rfl⟩,⟨rfl,rfl,rfl⟩,trivial⟩ rfl,rfl,⟨by omega,hs.1,hs.2.1.trans hdn,(Gf hx).trans hG⟩,by show p.length - (j+1)<p.length - j;omega⟩
    ·have h4p:=aD h4;refine dR ?_;have e:fF c=d:=by rw[←hG,cD omT];rfl
     rw[e];exact pP (rs:=[]) rfl (σ:=λ z=>z) ⟨rfl,rfl⟩ rfl (cH (λ z=>z) rfl rfl wH rfl)
   ·have hjn:j≤p.length:=hj.1;have hjB:j≤2:=by omega
    have hd:d.okM (nb+j):=hj.2.1;have hdn:d.rob.length=n:=hj.2.2.1;have hG:(p.drop j).foldl fH d=fF c:=hj.2.2.2;refine cSR<|rW (vB (decide (j<p.length))) rfl (okB (ltN _ _))<|rE 46<|bI ?_;refine aQ rfl (λ h5=>?_) (λ h5=>?_)
    ·have h5p:=of_decide_eq_true h5;refine aY<|bI<|bE<|cSR ?_;obtain⟨x,hx⟩:∃ y_,p[j]?=some y_:=⟨_,aA omT⟩;have hxo:=hpl x (aB hx);have hs:=vO hd omT x;refine rIx (QY x) (.dp 1 0 (QY x)) rfl rfl (fM hx) rfl<|oR 2 rfl<|rE 49<|cRg<|oR 2 rfl<|fX (args:=[.ptr 0 0,vN x]) (d:=80) _ rfl rfl rfl ((UN d (nb+j) hd x (by have:=hxo;omega) A B lo n kR kF kS kT xF xT hlo hdn hA).frameB2 (λ z=>z) _ _ rfl ⟨⟨rfl,rfl,rfl,rfl⟩,⟨rfl,rfl,rfl,rfl⟩,trivial⟩ rfl rfl rfl rfl rfl) ?_;rintro _ _ ⟨rfl,rfl⟩;refine rE 52<|cRg ?_;have b4:j+1≤3:=aF hjB (aC 1);refine rW (vN (j+1)) rfl (okI (bL b4 rfl))<|oR 1 rfl<|rE 54 ?_;refine .mk _ (.refl _) ⟨(j+1,fH d x,false),λ i=>i,Weak.of_lists _ wT ⟨⟨rfl,(congrArg (λ z:List Pt=>some (Blk.box (mcX (fH d x) (.osl 1 lo n kR) (.sl 2 xF kF) (.sl 2 (z.map ptL) kS) (.sl 9 xT kT)))) hs.2.2.2.1.symm),rfl⟩,⟨rfl,rfl,rfl⟩,trivial⟩ rfl,rfl,⟨by omega,hs.1,hs.2.1.trans hdn,(Gf hx).trans hG⟩,by show p.length - (j+1)<p.length - j;omega⟩
    ·have h5p:=aD h5;refine dR ?_;have e:fF c=d:=by rw[←hG,cD omT];rfl
     rw[e];exact pP (rs:=[]) rfl (σ:=λ z=>z) ⟨rfl,rfl⟩ rfl (cH (λ z=>z) rfl rfl wH rfl)
theorem SP(c:Co)(nb:Nat)(hm:c.okM nb)(h0:c.rob=[])(kF kS kT:Bool)(xF xT:List (List AV)):qF C0.P C0.G 55 [.ptr 0 0] (heapF [(0,.box (mcX c (.sl 17 [] false) (.sl 2 xF kF) (.sl 2 (c.stores.map ptL) kS) (.sl 9 xT kT)))]) 1 (λ x h'=>x=.tup []∧h'=heapF [(0,.box (mcX (fF c) (.sl 17 [] false) (.sl 2 xF kF) (.sl 2 ((fF c).stores.map ptL) kS) (.sl 9 xT kT)))]):=by
 refine HCall.intro (C:=C1) (s:=1) c1Ok.at Tryz.func55 rfl rfl (by kernel_rfl) rfl rfl<|bI<|cSR<|oR 5 rfl<|rV (vB (c.halt != 0)) rfl<|rE 7 ?_;refine aQ rfl (λ h1=>?_) (λ h1=>?_)
 ·have h1p:=wX h1;refine cM ?_;have e:fF c=c:=by unfold fF Af zB;rw[h0];split<;>rfl
  rw[e];exact pP (rs:=[]) rfl (σ:=λ z=>z) ⟨rfl,rfl⟩ rfl (cH (λ z=>z) rfl rfl wH rfl)
 ·have h1p:=wY h1;refine aY<|cSR<|oR 1 rfl<|rE 8<|cSR<|oR 5 rfl<|rW (vN 0) rfl (qM enL ([]:List Ent) omT)<|rFx (x:=.osl 14 0 0 false) (h':=upd _ 14 (some (.arr (([]:List Int).map fD) 1))) rfl rfl (rfl) (⟨by decide,by decide,by show ((0:Nat):Int)≤1000000;omega⟩)<|oR 1 rfl<|rE 16<|cSR<|oR 5 rfl<|rW (vN 0) rfl (qM enL ([]:List Ent) omT) ?_;refine rFx (x:=.osl 22 0 0 false) (h':=upd _ 22 (some (.arr (([]:List Bool).map zF) 1))) rfl rfl (rfl) (⟨by decide,by decide,by show ((0:Nat):Int)≤1000000;omega⟩)<|oR 1 rfl<|rE 24<|Dl<|cSR<|oR 5 rfl<|rW (vN 0) rfl (qM enL ([]:List Ent) omT)<|oR 1 rfl<|rE 31<|bE<|sW (κ:=Nat) (λ k=>⟨slotsF [(0,.ptr 0 0),(14,vB (c.halt != 0)),(3,.osl 14 0 0 false),(4,.osl 22 0 0 false),(33,.sl 17 (([]:List Ent).map enL) false),(34,vN 0),(2,vB false),(35,vN k)],heapF [(0,.box (mcX c (.sl 17 (([]:List Ent).map enL) false) (.sl 2 xF kF) (.sl 2 (c.stores.map ptL) kS) (.sl 9 xT kT))),(14,.arr (([]:List Int).map fD) 1),(22,.arr (([]:List Bool).map zF) 1)],31⟩) (λ k=>k≤0) (λ k=>0 - k) 0 (λ s=>s) (Weak.of_lists (λ s=>s) wT wH rfl) rfl (aE _) ?_;intro k hk;have hkn:k≤0:=hk;have hkB:k≤1000:=by omega
  refine cSR<|rW (vB (decide (k<0))) rfl (okB (ltN _ _))<|rE 32<|bI ?_;refine aQ rfl (λ h2=>by exact absurd (of_decide_eq_true h2) (eD _)) (λ _=>?_);refine dR<| .mk _ (.step (some (14,1,([]:List Int).map fD)) (Ghost.of_lists (l:=[(0,.ptr 0 0),(14,vB (c.halt != 0)),(3,.sl 1 (([]:List Int).map fD) false),(4,.osl 22 0 0 false),(2,vB false),(36,vB (decide (k<0)))]) (hp:=[(0,.box (mcX c (.sl 17 (([]:List Ent).map enL) false) (.sl 2 xF kF) (.sl 2 (c.stores.map ptL) kS) (.sl 9 xT kT))),(22,.arr (([]:List Bool).map zF) 1)]) rfl rfT rbT) (.step (some (22,1,([]:List Bool).map zF)) (Ghost.of_lists (l:=[(0,.ptr 0 0),(14,vB (c.halt != 0)),(3,.sl 1 (([]:List Int).map fD) false),(4,.sl 1 (([]:List Bool).map zF) false),(2,vB false),(36,vB (decide (k<0)))]) (hp:=[(0,.box (mcX c (.sl 17 (([]:List Ent).map enL) false) (.sl 2 xF kF) (.sl 2 (c.stores.map ptL) kS) (.sl 9 xT kT)))]) rfl rfT rbT) (.refl _)))<|cSR<|oR 9 rfl<|rCi rfl (YP c.conf.width false [] [] false false (by decide) (by decide))<|rW (vN 0) rfl (qM QY ([]:List Nat) omT)<|oR 1 rfl<|rE 44<|bE<|sW (κ:=Nat) (λ j=>⟨slotsF [(0,.ptr 0 0),(14,vB (c.halt != 0)),(36,vB (decide (k<0))),(72,.sl 1 (([]:List Nat).map QY) false),(73,vN 0),(74,vN j)],heapF [(0,.box (mcX c (.sl 17 (([]:List Ent).map enL) false) (.sl 2 xF kF) (.sl 2 (c.stores.map ptL) kS) (.sl 9 xT kT)))],44⟩) (λ j=>j≤0) (λ j=>0 - j) 0 (λ s=>s) (Weak.of_lists (λ s=>s) wT wH rfl) rfl (aE _) ?_;intro j hj;have hjn:j≤0:=hj;have hjB:j≤1000:=by omega
  refine cSR<|rW (vB (decide (j<0))) rfl (okB (ltN _ _))<|rE 45<|bI ?_;refine aQ rfl (λ h3=>by exact absurd (of_decide_eq_true h3) (eD _)) (λ _=>?_);refine dR ?_;have e:fF c=c:=by unfold fF Af zB;rw[h0];split<;>rfl
  rw[e];exact pP (rs:=[]) rfl (σ:=λ z=>z) ⟨rfl,rfl⟩ rfl (cH (λ z=>z) rfl rfl wH rfl)
def UK(s:Nat)(c:Co)(F S T:AV)(h':AH):Prop:=
 (c.rob=[]∧h'=heapF [(0,.box (mcX c (.sl 17 [] false) F S T))])∨
 ∃ (b:Nat) (A B:List Ent) (k:Bool),(b=1∧1<s∨b=s)∧A.length+c.rob.length+B.length≤1000∧h'=heapF [(0,.box (mcX c (.osl b A.length c.rob.length k) F S T)),(b,.arr ((A++c.rob++B).map enL) 17)]
theorem BQ{c:Co}{R F S S' T T':AV}(hS:S=S')(hT:T=T'):some (Blk.box (mcX c R F S T))=some (Blk.box (mcX c R F S' T')):=by rw[hS,hT]
theorem eC{e:Ent}(h:e.ok):(bH e).ok:=by
 have hz:(0:Nat)≤4294967295:=aE _;have hv:(if wr e.i≠0 then e.value else 0)≤4294967295:=by
  split
  ·exact h.value
  ·exact hz
 have ha:(if e.halt=4∨e.halt=5 then e.addr else 0)≤4294967295:=by
  split
  ·exact h.addr
  ·exact hz
 unfold bH
 repeat' split
 all_goals first
  |exact⟨h.pc,h.pc,hz,ha⟩
  |exact⟨h.pc,zC _,h.value,h.addr⟩
  |exact⟨h.pc,zC _,hv,h.addr⟩
  |exact⟨h.pc,zC _,hv,hz⟩
  |exact⟨h.pc,h.next,hv,hz⟩
  |(refine⟨h.pc,?_,?_,?_⟩<;>first|exact zC _|exact h.next|exact h.pc|exact hz|exact h.value|exact h.addr)
theorem CV{s:Sp}(h:(gG s).isSome=true):s.store=true∧s.halt=0∧(gG s).getD ⟨0,mR⟩=⟨s.addr,sL s.value s.size.toNat⟩:=by
 unfold gG at h⊢;split at h
 ·cases h
 ·rename_i hq;rw[if_neg hq];refine⟨?_,?_,rfl⟩
  ·cases hs:s.store with
   |true=>rfl
   |false=>exact absurd (.inl hs) hq
  ·exact Classical.byContradiction λ e=>hq (.inr (.inl e))
theorem NJ{s:Sp}(h:s.ok):((gG s).getD ⟨0,mR⟩).ok:=by
 unfold gG;split
 ·exact⟨aE _⟩
 ·exact⟨h.addr⟩
theorem PB{r:Nat→Nat}{s:Sp}(hr:∀ k,r k≤4294967295)(hs:s.ok)(k:Nat):qU r s k≤4294967295:=by
 unfold qU;split
 ·unfold Wx;split
  ·exact hs.value
  ·exact hr k
 ·exact hr k
theorem NK{g:Gu}{pc next:Nat}{i:SI}(h:g.ok)(hR:sK g=true)(hpc:pc≤4294967295)(hn:next≤4294967295):(gE g pc next i).ok∧sK (gE g pc next i)=true:=by
 obtain⟨h1,h2,h3⟩:=WO.1 hR;have happ:∀ x∈g.rets++[up4 pc],x≤4294967295:=oP (P:=λ x=>x≤4294967295) h.ro (oQ (P:=λ x=>x≤4294967295) (zC pc));unfold gE;split
 ·have hs:∀ x∈g.slots.set (gO g pc) ⟨pc,next⟩,x.ok:=yN (P:=Gs.ok) h.so ⟨hpc,hn⟩;have hh:(2 * g.hist+(if next≠up4 pc then 1 else 0)) % 8<8:=bG _ (by decide);refine⟨⟨?_,?_,?_,hs,?_⟩,WO.2 ⟨?_,hh,?_⟩⟩
  ·show (g.slots.set _ _).length≤_;rw[bZ,h1];decide
  ·dsimp only;repeat' split
   ·rw[aX,aW,kD];omega
   ·rw[aW,kD];omega
   ·rw[oJ];omega
   ·omega
  ·exact aN (Nat.le_of_lt hh) (by decide)
  ·dsimp only;repeat' split
   ·exact HL (P:=λ x=>x≤4294967295) happ
   ·exact happ
   ·intro x hx;exact h.ro x (oK _ hx)
   ·exact h.ro
  ·show (g.slots.set _ _).length=8;rw[bZ,h1]
  ·dsimp only;repeat' split
   ·rename_i q1 q2;rw[aX];rw[aW,kD]at q2⊢;omega
   ·rename_i q1 q2;omega
   ·rw[oJ];omega
   ·exact h3
 ·exact⟨h,hR⟩
theorem mN{c:Co}{s:Sp}(h:(gG s).isSome=true):(dP c s).stores=c.stores++[(gG s).getD ⟨0,mR⟩]:=by
 unfold dP;obtain⟨p,hp⟩:=Fh.1 h;rw[hp];rfl
theorem jR{c:Co}{s:Sp}(h:(gG s).isSome=false):(dP c s).stores=c.stores:=by
 unfold dP;have hp:gG s=none:=by simpa using h
 rw[hp]
theorem Jq{s:Sp}:((gG s).getD ⟨0,mR⟩).data.size≤4:=by
 unfold gG;split
 ·exact aE _
 ·show (sL s.value s.size.toNat).size≤4;rw[yT];omega
theorem sE{c:Co}{n:Nat}{s:Sp}(h:c.okM n)(hb:n+1≤890000)(hs:s.ok)(hst:s.store=true→c.stores.length≤999):(dP c s).okM (n+1):=by
 have hS:(dP c s).stores.length≤1000∧(∀ x∈(dP c s).stores,x.ok)∧∀ x∈(dP c s).stores,x.data.size≤4:=by
  cases hq:(gG s).isSome with
  |true=>
   rw[mN hq];have:=hst (CV hq).1
   exact⟨by simp;omega,oP h.ok.stoo (oQ (P:=Pt.ok) (NJ hs)),λ x hx=>(al_List_mem_append.1 hx).elim (h.std x) λ hx=>uD.1 hx ▸ Jq⟩
  |false=>rw[jR hq];exact⟨h.sto,h.ok.stoo,h.std⟩
 have hr:(c.retired++[s]).length≤n+1:=by have:=h.ok.ret;simp;omega
 exact⟨⟨h.ok.conf,h.ok.prog,h.ok.progo,h.ok.r,h.ok.fetch,h.ok.fet,h.ok.feto,h.ok.rob,h.ok.robo,aN hS.1 (by decide),hS.2.1,h.ok.data,h.ok.words,qQ h.ok.bus,h.ok.buso,h.ok.asked,h.ok.guessed,h.ok.mem,h.ok.guess,hr,oP h.ok.reto (oQ (P:=Sp.ok) hs)⟩,hb,h.cf,h.data,h.words,h.guess,h.rob,h.fet,hS.1,h.prog,h.mem,hS.2.2⟩
def Es(c:Co)(line:Nat):Co:={c with data:=(eI c line).data,bus:=(eI c line).bus,asked:=(eI c line).asked}
theorem pB(c:Co)(line:Nat):Es c line=eI c line:=by
 unfold Es eI;generalize iA c.data c.bus c.mem line (lJ c.conf c.asked)=t;obtain⟨d,q,a⟩:=t;rfl
def xL(d:Co)(e:Ent):Co:={dP d (bH e)with r:=qU d.r (bH e),guess:=gE d.guess (bH e).pc (bH e).next e.i,rob:=d.rob.drop 1}
def Et(d:Co)(e:Ent):Co:={Es (dP d (bH e)) (bH e).addr with r:=qU d.r (bH e),guess:=gE d.guess (bH e).pc (bH e).next e.i,rob:=d.rob.drop 1}
theorem jE{d:Co}{n:Nat}(h:d.halt≠0∨d.rob.length=0):eB n d=d:=by
 cases n with
 |zero=>rfl
 | succ n=>
  unfold eB;by_cases h1:d.halt≠0
  ·exact if_pos h1
  ·rw[if_neg h1];have hz:d.rob=[]:=bB (h.resolve_left h1);rw[hz]
theorem fV{d:Co}{n:Nat}{e:Ent}(hn:0<n)(h: ¬ d.halt≠0)(he:d.rob[0]?=some e):eB n d=if e.is≠3 then d else if (bH e).halt≠0 then tJ d (bH e)else if (bH e).store=true∧(d.stores.length:Int)≥d.conf.stores then d else eB (n - 1) (vQ d e (bH e) (d.rob.drop 1)):=by
 cases n with
 |zero=>cases hn
 |succ n=>
  conv=>lhs;unfold eB
  rw[if_neg h]
  cases hz:d.rob with
  |nil=>rw[hz]at he;cases he
  |cons y l=>rw[hz]at he;injection he with he;subst he;rfl
theorem tY{d:Co}{e:Ent}(h: ¬ kindOf e.i.op=3):vQ d e (bH e) (d.rob.drop 1)=xL d e:=by
 unfold vQ uX xL;rw[if_neg h]
theorem zX{d:Co}{e:Ent}(h:kindOf e.i.op=3):vQ d e (bH e) (d.rob.drop 1)=Et d e:=by
 unfold vQ uX Et;rw[if_pos h,pB]
theorem Jr{d x:Co}{n:Nat}{e:Ent}(hx:x.okM n)(hd:d.okM n)(he:e.ok)(hr:x.rob=d.rob):Co.okM {x with r:=qU d.r (bH e),guess:=gE d.guess (bH e).pc (bH e).next e.i,rob:=d.rob.drop 1} n:=by
 have hs:=eC he;have hg:=NK (i:=e.i) hd.ok.guess hd.guess hs.pc hs.next;have hl:(d.rob.drop 1).length≤1000:=by have:=hd.rob;rw[aX];omega
 exact⟨⟨hx.ok.conf,hx.ok.prog,hx.ok.progo,PB hd.ok.r hs,hx.ok.fetch,hx.ok.fet,hx.ok.feto,aN hl (by decide),HL hd.ok.robo,hx.ok.sto,hx.ok.stoo,hx.ok.data,hx.ok.words,hx.ok.bus,hx.ok.buso,hx.ok.asked,hx.ok.guessed,hx.ok.mem,hg.1,hx.ok.ret,hx.ok.reto⟩,hx.nb,hx.cf,hx.data,hx.words,hg.2,hl,hx.fet,hx.sto,hx.prog,hx.mem,hx.std⟩
theorem xM{d:Co}{n:Nat}{e:Ent}(hd:d.okM n)(hb:n+2≤890000)(he:e.ok)(hst:(bH e).store=true→d.stores.length≤999):(xL d e).okM (n+2):=
 Jr ((sE hd omT (eC he) hst).mono omT hb) (hd.mono omT hb) he rfl
theorem Gc{d:Co}{n:Nat}{e:Ent}(hd:d.okM n)(hb:n+2≤890000)(he:e.ok)(hst:(bH e).store=true→d.stores.length≤999):(Et d e).okM (n+2):=by
 have h:=Ex (sE hd omT (eC he) hst) omT (eC he).addr;rw[←pB]at h;exact Jr h (hd.mono omT hb) he rfl
end Go.Proofs.YtlhofpglndhfaaaGreatDoor
