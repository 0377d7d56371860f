/- Joined texts. -/
import Derived.Test.YtlhofpglndhfaaaGreatDoorS101
import Derived.Test.YtlhofpglndhfaaaGreatDoorS128
import Derived.Test.YtlhofpglndhfaaaGreatDoorS133
set_option linter.unusedVariables false
set_option linter.unusedSimpArgs false
namespace Go.Proofs.YtlhofpglndhfaaaGreatDoor
set_option maxRecDepth 100000
set_option maxHeartbeats 4000000
open Go.RowKit
theorem Ws(a:Addr)(k:Nat)(w:World):Calls Tryz.prog 86 #[.slice (some a) 0 k] w λ e w'=>∃ v,e=.returned v∧Below w.heap.size w w'∧∃ A c,v=.slice A 0 c∧c≤maxLen:=by
 obtain⟨i0,z0,hi, -⟩:=(c0Ok.ty 95 _ rfl).info
 go_enter Tryz.func86,Tryz.ntmps86
 have hb:Sem.run Tryz.prog (binOp .eql 29 (.slice (some a) 0 k) (.slice none 0 0)) w=.ok (.bool false) w:=by
  have e1:(Op.equal 29 (.slice (some a) 0 k) (.slice none 0 0)).run Tryz.prog w=.ok (some a).isNone w:=AD Tryz.prog w 9999 _ 95 (c0Ok.ty 29 _ rfl).kd _ _ _;simp only[binOp,Sem.run_bind,e1,Result.andThen_ok];rfl
 go_wp2_with (first|(rw[hb];simp only[Result.andThen_ok,Oper.upon])|(at_builtin;refine wW rfl (.tmp 5) (.tmp 6) 29 rfl 95 i0 (c0Ok.ty 29 _ rfl).kd hi _ _ _ _ rfl rfl ?_))
 go_ret
 exact⟨_,rfl,(Below.refl _ _).alloc (aC _) _,_,_,rfl,aE _⟩
theorem Mx(k:Nat):bX C0 86 [.v (.slice none 0 k)] (.sl 0 [] true):=by
 refine bX.intro c0Ok Tryz.func86 rfl rfl (by kernel_rfl) rfl<|cSR<|oR 1 rfl<|rE 1<|bW<|cSR<|oR 1 rfl<|rV (vB true) rfl<|rE 3<|aW rfl (λ _=>?_) (λ h=>by cases h);refine cSR<|oR 1 rfl<|rE 4<|cO ?_;exact fT rfl rfl
theorem Tm(ck:Bool):bX C0 86 [.sl 17 [] ck] (.sl 17 [] false):=by
 refine⟨(Mx 0).1,λ S w vs hS hG hr=>?_⟩
 match vs,hr with
 |[],hr=>simp[RepL]at hr
 |_::_::_,hr=>simp[RepL]at hr
 | [v],hr=>
  have h0:=hr.2 0 _ v rfl rfl
  cases h0 with
  | sl _ _ _ A c b o u hc hm hcl hrs hA hw h1 h'=>
   cases A with
   |none=>exact ((Mx c).sub (oG 17 false)).2 S w _ hS hG (RepL.cons (.v _) (RepL.nil _ _ _))
   |some a=>
    exact (Ws a c w).mono λ e w' ⟨v,h1,h2,A,c',h3,h4⟩=>⟨v,h1,h2,h3 ▸ .sl 17 [] false A c' 0 0 (λ _ _=>.bool false) (aE _) h4 (λ h=>by cases h) (λ _ h=>by cases h) (λ h=>absurd h (dS 0)) (λ i row j a h=>by simp at h) (λ _ _=>rfl) λ i row j a h=>by simp at h⟩
theorem Tn{p:Prop}{H:AH}{s:Nat}(e:Ent)(l:List Ent):Res.fx p (.osl s 0 (([]:List (List AV)).length+((e::l).map enL).length) false) (upd H s (some (.arr (([]:List (List AV))++(e::l).map enL) 17)))=.fx p (.osl s 0 (l.length+1) false) (upd H s (some (.arr ((e::l).map enL) 17))):=by
 rw[iZ,aF,bN,cU,bL]
theorem Wt(e:Ent)(l:List Ent)(ck:Bool)(hl:l.length≤1000):pV C0.P C0.G 86 [.sl 17 ((e::l).map enL) ck] (heapF []) 0 (λ x h'=>x=.osl 0 0 (l.length+1) false∧h'=heapF [(0,.arr ((e::l).map enL) 17)]):=by
 refine HCall.intro (C:=C0) (s:=0) c0Ok.at Tryz.func86 rfl rfl (by kernel_rfl) rfl rfl<|cSR<|oR 1 rfl<|rE 1<|bW<|cSR<|oR 1 rfl<|rV (vB false) rfl<|rE 3<|aW rfl (λ h=>by cases h) (λ _=>?_);refine bB<|cSR<|rV (.sl 17 ([]) true) rfl<|oR 1 rfl<|rFx (x:=.osl 5 0 (l.length+1) false) (h':=upd _ 5 (some (.arr ((e::l).map enL) 17))) rfl rfl (Tn e l) (⟨by simp only[aF,bN,cU,kW];omega,by simp,trivial,trivial⟩)<|oR 1 rfl<|rE 7<|cO ?_;exact pG (rs:=[.osl 5 0 (l.length+1) false]) rfl (r:=.osl 0 0 (l.length+1) false) (h':=heapF [(0,.arr ((e::l).map enL) 17)]) (σ:=λ _=>5) ⟨rfl,rfl⟩ rfl (cE (λ _=>5) rfl rfl wH rfl)
theorem Ut(l:List Ft)(ck:Bool)(hl:l.length≤1000000):bX C0 87 [.sl 2 (l.map ftL) ck] (.sl 2 (l.map ftL) true):=by
 refine bX.intro c0Ok Tryz.func87 rfl rfl (by kernel_rfl) rfl<|cSR<|oR 1 rfl<|rE 1<|cSR<|oR 2 rfl<|rW (vN l.length) rfl (bY ftL l)<|oR 1 rfl<|rW (vN l.length) rfl (bY ftL l)<|nW (.sl 2 ((l.take l.length).map ftL) true) rfl (wU (uX ftL l l.length)) (by refine⟨?_,?_,?_,?_⟩;all_goals (first|exact aG _|decide|(apply EJ.2;exact omT)|(show (_:Int)=(_:Int);congr 1;omega)|rfl))<|oR 1 rfl<|rE 8<|cO<|fT rfl ?_;show AV.sl 2 (List.map ftL (List.take l.length l)) true=_;rw[cS]
theorem Uu(l:List Pt)(ck:Bool)(hl:l.length≤1000000):bX C0 88 [.sl 2 (l.map ptL) ck] (.sl 2 (l.map ptL) true):=by
 refine bX.intro c0Ok Tryz.func88 rfl rfl (by kernel_rfl) rfl<|cSR<|oR 1 rfl<|rE 1<|cSR<|oR 2 rfl<|rW (vN l.length) rfl (bY ptL l)<|oR 1 rfl<|rW (vN l.length) rfl (bY ptL l)<|nW (.sl 2 ((l.take l.length).map ptL) true) rfl (wU (uX ptL l l.length)) (by refine⟨?_,?_,?_,?_⟩;all_goals (first|exact aG _|decide|(apply EJ.2;exact omT)|(show (_:Int)=(_:Int);congr 1;omega)|rfl))<|oR 1 rfl<|rE 8<|cO<|fT rfl ?_;show AV.sl 2 (List.map ptL (List.take l.length l)) true=_;rw[cS]
theorem Uv(l:List Req)(ck:Bool)(hl:l.length≤1000000):bX C0 89 [.sl 4 (l.map rqL) ck] (.sl 4 (l.map rqL) true):=by
 refine bX.intro c0Ok Tryz.func89 rfl rfl (by kernel_rfl) rfl<|cSR<|oR 1 rfl<|rE 1<|cSR<|oR 2 rfl<|rW (vN l.length) rfl (bY rqL l)<|oR 1 rfl<|rW (vN l.length) rfl (bY rqL l)<|nW (.sl 4 ((l.take l.length).map rqL) true) rfl (wU (uX rqL l l.length)) (by refine⟨?_,?_,?_,?_⟩;all_goals (first|exact aG _|decide|(apply EJ.2;exact omT)|(show (_:Int)=(_:Int);congr 1;omega)|rfl))<|oR 1 rfl<|rE 8<|cO<|fT rfl ?_;show AV.sl 4 (List.map rqL (List.take l.length l)) true=_;rw[cS]
theorem Uw(l:List Sp)(ck:Bool)(hl:l.length≤1000000):bX C0 90 [.sl 9 (l.map spL) ck] (.sl 9 (l.map spL) true):=by
 refine bX.intro c0Ok Tryz.func90 rfl rfl (by kernel_rfl) rfl<|cSR<|oR 1 rfl<|rE 1<|cSR<|oR 2 rfl<|rW (vN l.length) rfl (bY spL l)<|oR 1 rfl<|rW (vN l.length) rfl (bY spL l)<|nW (.sl 9 ((l.take l.length).map spL) true) rfl (wU (uX spL l l.length)) (by refine⟨?_,?_,?_,?_⟩;all_goals (first|exact aG _|decide|(apply EJ.2;exact omT)|(show (_:Int)=(_:Int);congr 1;omega)|rfl))<|oR 1 rfl<|rE 8<|cO<|fT rfl ?_;show AV.sl 9 (List.map spL (List.take l.length l)) true=_;rw[cS]
theorem qO{c:Co}{fz:Fz}{R R' F F' S S' T T':AV}(hR:LeZ fz R R')(hF:LeZ fz F F')(hS:LeZ fz S S')(hT:LeZ fz T T'):LeL fz (mcX c R F S T) (mcX c R' F' S' T'):=
 ⟨.refl _,.refl _,.refl _,.refl _,.refl _,.refl _,.refl _,.refl _,.refl _,.refl _,.refl _,.refl _,.refl _,.refl _,.refl _,.refl _,.refl _,.refl _,.refl _,.refl _,.refl _,.refl _,.refl _,.refl _,.refl _,.refl _,.refl _,.refl _,.refl _,.refl _,.refl _,.refl _,.refl _,.refl _,.refl _,.refl _,.refl _,.refl _,.refl _,.refl _,.refl _,.refl _,.refl _,.refl _,.refl _,.refl _,.refl _,hF,hR,.refl _,hS,.refl _,.refl _,.refl _,.refl _,.refl _,.refl _,.refl _,.refl _,.refl _,.refl _,.refl _,.refl _,hT,trivial⟩
theorem YL{C:Ctx}{fn:Func}{Post:AV→AH→Prop}{s:Nat}{st stg:ASt}{rs:List AV}(h1:resA C st fn.results.toList=some rs)(hg:Ghosts ⟨Fd (Ct rs),st.h,st.n⟩ stg){r:AV}{h':AH}{σ:Nat→Nat}(hP:Post r h')(hk:keepB s σ (s+1)=true)(hW:Weak stg ⟨Fd r,h',s+1⟩ σ):
  ∃ rs,resA C st fn.results.toList=some rs∧GhostN ⟨Fd (Ct rs),st.h,st.n⟩ (λ stg=>∃ r h' σ,Post r h'∧keepB s σ (s+1)=true∧Weak stg ⟨Fd r,h',s+1⟩ σ):=
 ⟨rs,h1,.mk _ hg ⟨r,h',σ,hP,hk,hW⟩⟩
theorem BO{x r:AV}{h:AH}{n0:Nat}{hp:List (Nat×Blk)}{n:Nat}(σ:Nat→Nat)(hx:x=tY σ r)(hb:mI n r=true)(hh:WH ⟨slotsF [(0,x)],h,n0⟩ n σ hp)(hi:Dr ((hp.map (·.1)).map σ)=true):Weak ⟨slotsF [(0,x)],h,n0⟩ ⟨Fd r,heapF hp,n⟩ σ:=by
 have W:=Weak.of_lists (st:=⟨slotsF [(0,x)],h,n0⟩) (l:=[(0,r)]) (hp:=hp) (n:=n) σ ⟨⟨hx,hb⟩,trivial⟩ hh hi;refine⟨λ i=>?_,W.h,W.inj⟩;have:=W.t i
 cases i with
 |zero=>exact this
 |succ i=>exact .inl rfl
theorem Ghosts.snoc{a b c:ASt}{fz:Fz}(h:Ghosts a b)(k:Ghost b c fz):Ghosts a c:=by
 induction h with
 |refl=>exact .step fz k (.refl _)
 |step f g _ ih=>exact .step f g (ih k)
abbrev fzB (fz:Fz) (i:Nat):Prop:=match fz with|some (b,_,_)=>Nat.beq i b=false|none=>True
abbrev fzH (fz:Fz) (h:AH):Prop:=match fz with|some (x,rs,rows)=>h x=some (.arr rows rs)|none=>True
theorem ghX{st:ASt}{fz:Fz}{i:Nat}{cs ds:List AV}{l:List (Nat×Blk)}(h0:st.h i=some (.box cs))(hle:LeL fz cs ds)(hl:GH st fz l)(hz:fzB fz i:=by first|exact trivial|rfl):GH st fz ((i,.box ds)::l):=⟨⟨by rcases fz with _|⟨b,r,q⟩<;>exact hz,_,h0,.boxL hle⟩,hl⟩
theorem ghA{st:ASt}{fz:Fz}{i:Nat}{b:Blk}{l:List (Nat×Blk)}(h0:st.h i=some b)(hl:GH st fz l)(hz:fzB fz i:=by first|exact trivial|rfl):GH st fz ((i,b)::l):=⟨⟨by rcases fz with _|⟨b,r,q⟩<;>exact hz,_,h0,.refl _⟩,hl⟩
theorem CY{C:Ctx}{fn:Func}{Post:AV→AH→Prop}{s:Nat}{st a:ASt}{hp:List (Nat×Blk)}(hg:Ghosts ⟨Fd (.tup []),st.h,st.n⟩ a)(fz:Fz)(hP:Post (.tup []) (heapF hp))(hG:GH a fz hp)(h1:resA C st fn.results.toList=some []:=by rfl)(hb:fzH fz a.h:=by first|exact trivial|rfl)(ht:LeZ fz (a.t 0) (.tup []):=by exact .refl _)(hk:keepB s (λ z=>z) (s+1)=true:=by rfl)(hh:WH ⟨slotsF [(0,.tup [])],heapF hp,a.n⟩ (s+1) (λ z=>z) hp:=by exact wH)(hi:Dr ((hp.map (·.1)).map (λ z=>z))=true:=by rfl):
  ∃ rs,resA C st fn.results.toList=some rs∧GhostN ⟨Fd (Ct rs),st.h,st.n⟩ (λ stg=>∃ r h' σ,Post r h'∧keepB s σ (s+1)=true∧Weak stg ⟨Fd r,h',s+1⟩ σ):=
 YL (rs:=[]) h1 (hg.snoc (Ghost.of_lists (l:=[(0,.tup [])]) (by rcases fz with _|⟨b,r,q⟩<;>exact hb) ⟨ht,trivial⟩ hG)) hP hk (BO (λ z=>z) rfl rfl hh hi)
theorem ZJ(c:Co)(nb:Nat)(hm:c.okM nb)(kR kF kS kT:Bool):pV C0.P C0.G 51 [.ptr 0 0] (heapF [(0,.box (mcX c (.sl 17 [] kR) (.sl 2 (c.fetched.map ftL) kF) (.sl 2 (c.stores.map ptL) kS) (.sl 9 (c.retired.map spL) kT)))]) 1 (λ x h'=>x=.tup []∧h'=heapF [(0,.box (mcX c (.sl 17 [] false) (.sl 2 (c.fetched.map ftL) true) (.sl 2 (c.stores.map ptL) true) (.sl 9 (c.retired.map spL) true)))]):=by
 refine HCall.intro (C:=C0) (s:=1) c0Ok.at Tryz.func51 rfl rfl (by kernel_rfl) rfl rfl<|cSR<|oR 6 rfl<|rCi rfl (Tm kR)<|oR 3 rfl<|rSx 0 (mcX c (.sl 17 ([]) false) (.sl 2 (c.fetched.map ftL) kF) (.sl 2 (c.stores.map ptL) kS) (.sl 9 (c.retired.map spL) kT)) rfl rfl rfl<|rE 12<|cSR<|oR 6 rfl<|rCi rfl (Ut c.fetched kF (by have:=hm.fet;omega))<|oR 3 rfl<|rSx 0 (mcX c (.sl 17 ([]) false) (.sl 2 (c.fetched.map ftL) true) (.sl 2 (c.stores.map ptL) kS) (.sl 9 (c.retired.map spL) kT)) rfl rfl rfl<|rE 23<|bW ?_;refine cRg<|oR 6 rfl<|rCi rfl (Uu c.stores kS (by have:=hm.sto;omega))<|oR 3 rfl<|rSx 0 (mcX c (.sl 17 ([]) false) (.sl 2 (c.fetched.map ftL) true) (.sl 2 (c.stores.map ptL) true) (.sl 9 (c.retired.map spL) kT)) rfl rfl rfl<|rE 34<|cSR<|oR 6 rfl<|rCi rfl (Uv c.bus false (by have:=hm.bus;omega))<|oR 3 rfl<|rSt rfl<|rE 45<|cRg<|oR 6 rfl<|rCi rfl (Uw c.retired kT (by have:=hm.ret;omega)) ?_;refine oR 3 rfl<|rSt rfl<|rE 56 ?_;exact YL (rs:=[]) rfl (.step none (Ghost.of_lists (l:=[(0,.tup [])]) (hp:=[(0,.box (mcX c (.sl 17 [] false) (.sl 2 (c.fetched.map ftL) true) (.sl 2 (c.stores.map ptL) true) (.sl 9 (c.retired.map spL) true)))]) trivial ⟨.refl _,trivial⟩ ⟨⟨trivial,_,rfl,LeB.boxL ⟨.refl _,.refl _,.refl _,.refl _,.refl _,.refl _,.refl _,.refl _,.refl _,.refl _,.refl _,.refl _,.refl _,.refl _,.refl _,.refl _,.refl _,.refl _,.refl _,.refl _,.refl _,.refl _,.refl _,.refl _,.refl _,.refl _,.refl _,.refl _,.refl _,.refl _,.refl _,.refl _,.refl _,.refl _,.refl _,.refl _,.refl _,.refl _,.refl _,.refl _,.refl _,.refl _,.refl _,.refl _,.refl _,.refl _,.refl _,.refl _,.refl _,.refl _,.refl _,.refl _,.refl _,.refl _,.refl _,.clip _ _,.refl _,.refl _,.refl _,.refl _,.refl _,.refl _,.refl _,.refl _,trivial⟩⟩,trivial⟩) (.refl _)) (r:=.tup []) (h':=heapF [(0,.box (mcX c (.sl 17 [] false) (.sl 2 (c.fetched.map ftL) true) (.sl 2 (c.stores.map ptL) true) (.sl 9 (c.retired.map spL) true)))]) (σ:=λ z=>z) ⟨rfl,rfl⟩ rfl (BO (λ z=>z) rfl rfl wH rfl)
theorem ZK(c:Co)(nb:Nat)(hm:c.okM nb)(e:Ent)(l:List Ent)(hel:(e::l).length≤1000)(kR kF kS kT:Bool):pV C0.P C0.G 51 [.ptr 0 0] (heapF [(0,.box (mcX c (.sl 17 ((e::l).map enL) kR) (.sl 2 (c.fetched.map ftL) kF) (.sl 2 (c.stores.map ptL) kS) (.sl 9 (c.retired.map spL) kT)))]) 1 (λ x h'=>x=.tup []∧h'=heapF [(0,.box (mcX c (.osl 1 0 (l.length+1) false) (.sl 2 (c.fetched.map ftL) true) (.sl 2 (c.stores.map ptL) true) (.sl 9 (c.retired.map spL) true))),(1,.arr ((e::l).map enL) 17)]):=by
 refine HCall.intro (C:=C0) (s:=1) c0Ok.at Tryz.func51 rfl rfl (by kernel_rfl) rfl rfl ?_;have hel2:l.length+1≤1000:=hel;refine cSR<|oR 6 rfl<|fW (args:=[.sl 17 ((e::l).map enL) kR]) (d:=8) _ rfl rfl rfl ((Wt e l kR omT).frame0 _ _ rfl) ?_;rintro _ _ ⟨rfl,rfl⟩;refine oR 3 rfl<|rSx 0 (mcX c (.osl 7 0 (l.length+1) false) (.sl 2 (c.fetched.map ftL) kF) (.sl 2 (c.stores.map ptL) kS) (.sl 9 (c.retired.map spL) kT)) rfl rfl rfl<|rE 12<|cSR<|oR 6 rfl<|rCi rfl (Ut c.fetched kF (by have:=hm.fet;omega))<|oR 3 rfl<|rSx 0 (mcX c (.osl 7 0 (l.length+1) false) (.sl 2 (c.fetched.map ftL) true) (.sl 2 (c.stores.map ptL) kS) (.sl 9 (c.retired.map spL) kT)) rfl rfl rfl<|rE 23<|cSR<|oR 6 rfl<|rCi rfl (Uu c.stores kS (by have:=hm.sto;omega))<|oR 3 rfl<|rSx 0 (mcX c (.osl 7 0 (l.length+1) false) (.sl 2 (c.fetched.map ftL) true) (.sl 2 (c.stores.map ptL) true) (.sl 9 (c.retired.map spL) kT)) rfl rfl rfl ?_;refine rE 34<|cSR<|oR 6 rfl<|rCi rfl (Uv c.bus false (by have:=hm.bus;omega))<|oR 3 rfl<|rSt rfl<|rE 45<|cRg<|oR 6 rfl<|rCi rfl (Uw c.retired kT (by have:=hm.ret;omega))<|oR 3 rfl<|rSt rfl<|rE 56 ?_;exact YL (rs:=[]) rfl (.step none (Ghost.of_lists (l:=[(0,.tup [])]) (hp:=[(0,.box (mcX c (.osl 7 0 (l.length+1) false) (.sl 2 (c.fetched.map ftL) true) (.sl 2 (c.stores.map ptL) true) (.sl 9 (c.retired.map spL) true))),(7,.arr ((e::l).map enL) 17)]) trivial ⟨.refl _,trivial⟩ ⟨⟨trivial,_,rfl,LeB.boxL ⟨.refl _,.refl _,.refl _,.refl _,.refl _,.refl _,.refl _,.refl _,.refl _,.refl _,.refl _,.refl _,.refl _,.refl _,.refl _,.refl _,.refl _,.refl _,.refl _,.refl _,.refl _,.refl _,.refl _,.refl _,.refl _,.refl _,.refl _,.refl _,.refl _,.refl _,.refl _,.refl _,.refl _,.refl _,.refl _,.refl _,.refl _,.refl _,.refl _,.refl _,.refl _,.refl _,.refl _,.refl _,.refl _,.refl _,.refl _,.refl _,.refl _,.refl _,.refl _,.refl _,.refl _,.refl _,.refl _,.clip _ _,.refl _,.refl _,.refl _,.refl _,.refl _,.refl _,.refl _,.refl _,trivial⟩⟩,⟨trivial,_,rfl,.refl _⟩,trivial⟩) (.refl _)) (r:=.tup []) (h':=heapF [(0,.box (mcX c (.osl 1 0 (l.length+1) false) (.sl 2 (c.fetched.map ftL) true) (.sl 2 (c.stores.map ptL) true) (.sl 9 (c.retired.map spL) true))),(1,.arr ((e::l).map enL) 17)]) (σ:=λ z=>match z with|1=>7|z=>z) ⟨rfl,rfl⟩ rfl (BO (λ z=>match z with|1=>7|z=>z) rfl rfl wH rfl)
theorem OX{g:Gu}(h:g.ok)(pc:Nat)(i:SI):vX g pc i≤4294967295:=by
 unfold vX;split
 ·split
  ·cases hl:g.rets.getLast? with
   |none=>exact aE _
   |some x=>exact h.ro x (List.mem_of_getLast? hl)
  ·cases hs:g.slots[gJ g pc]? with
   |none=>exact yL _
   |some s=>
    dsimp only;split
    ·exact (h.so s (aB hs)).next
    ·exact yL _
 ·exact yL _
theorem OY{c:Cf}(h:∀ x∈c.tape,x≤4294967295)(k:Int)(pc:Nat):wY c k pc≤4294967295:=by
 have hp:=Hm h;unfold wY;generalize (bP c).tape=l at hp
 cases l with
 |nil=>exact yL _
 |cons y l=>
  show (y::l).getD _ _≤_;rw[bJ]
  cases hq:(y::l)[(max k 0).toNat % (y::l).length]? with
  |none=>exact aE _
  |some x=>exact hp x (aB hq)
theorem OZ{c:Co}{n:Nat}(h:c.okM n)(w:Nat):(cH c w).2≤4294967295:=by
 unfold cH;split
 ·exact yL _
 ·split
  ·exact OX h.ok.guess _ _
  ·exact OY h.conf.tp _ _
theorem Ax(c:Co)(w:Nat):(cH c w).1.fetched=c.fetched:=by
 unfold cH;split
 ·rfl
 ·split<;>rfl
def gU(d:Co):Co:={d with words:=mG d.words (lineOf d.fetch)}
theorem Ad{c:Co}{n:Nat}(h:c.okM n):(gU c).okM n:=by
 have g:=Zb.1 (h.gw.touch (lineOf c.fetch));exact⟨⟨h.ok.conf,h.ok.prog,h.ok.progo,h.ok.r,h.ok.fetch,h.ok.fet,h.ok.feto,h.ok.rob,h.ok.robo,h.ok.sto,h.ok.stoo,h.ok.data,g.2,h.ok.bus,h.ok.buso,h.ok.asked,h.ok.guessed,h.ok.mem,h.ok.guess,h.ok.ret,h.ok.reto⟩,h.nb,h.cf,h.data,g.1,h.guess,h.rob,h.fet,h.sto,h.prog,h.mem,h.std⟩
theorem Nb{c:Co}{n:Nat}(h:c.okM n)(w:Nat):(cH c w).1.okM n:=by
 unfold cH;split
 ·exact h
 ·split
  ·exact h
  ·exact⟨⟨h.ok.conf,h.ok.prog,h.ok.progo,h.ok.r,h.ok.fetch,h.ok.fet,h.ok.feto,h.ok.rob,h.ok.robo,h.ok.sto,h.ok.stoo,h.ok.data,h.ok.words,h.ok.bus,h.ok.buso,h.ok.asked,DX _,h.ok.mem,h.ok.guess,h.ok.ret,h.ok.reto⟩,h.nb,h.cf,h.data,h.words,h.guess,h.rob,h.fet,h.sto,h.prog,h.mem,h.std⟩
theorem KC{c:Co}{n:Nat}(h:c.okM n)(hf:c.fetched.length≤999){x:Nat}(hx:x≤4294967295):(KL c x).okM n:=by
 have hl:(c.fetched++[(⟨c.fetch,x⟩:Ft)]).length≤1000:=by simp;omega
 exact⟨⟨h.ok.conf,h.ok.prog,h.ok.progo,h.ok.r,hx,aM hl (by decide),rJ h.ok.feto (rK ⟨h.ok.fetch,hx⟩),h.ok.rob,h.ok.robo,h.ok.sto,h.ok.stoo,h.ok.data,h.ok.words,h.ok.bus,h.ok.buso,h.ok.asked,h.ok.guessed,h.ok.mem,h.ok.guess,h.ok.ret,h.ok.reto⟩,h.nb,h.cf,h.data,h.words,h.guess,h.rob,hl,h.sto,h.prog,h.mem,h.std⟩
def wR(d:Co):Co:=KL (cH (gU d) (fetchW d.prog d.fetch)).1 (cH (gU d) (fetchW d.prog d.fetch)).2
theorem tA(d:Co):(wR d).fetched=d.fetched++[⟨(cH (gU d) (fetchW d.prog d.fetch)).1.fetch,(cH (gU d) (fetchW d.prog d.fetch)).2⟩]:=by
 show (cH (gU d) _).1.fetched++_=_;rw[Ax];rfl
theorem Cg{c:Co}{n:Nat}(h:c.okM n)(hf:c.fetched.length≤999):(wR c).okM n:=
 KC (Nb (Ad h) _) (by rw[Ax];exact hf) (OZ (Ad h) _)
theorem pL{d:Co}{n:Nat}(h:d.stop=true∨(d.fetched.length:Int)≥d.conf.queue):dW n d=d:=by
 cases n with
 |zero=>rfl
 |succ n=>exact if_pos h
theorem qU{d:Co}{n:Nat}(hn:0<n)(h: ¬ (d.stop=true∨(d.fetched.length:Int)≥d.conf.queue))(hf:(fetchP d.prog d.fetch).isSome=false):dW n d={d with fetched:=d.fetched++[⟨d.fetch,up4 d.fetch⟩],stop:=true}:=by
 cases n with
 |zero=>cases hn
 |succ n=>exact (if_neg h).trans (if_pos hf)
theorem nJ{d:Co}{n:Nat}(hn:0<n)(h: ¬ (d.stop=true∨(d.fetched.length:Int)≥d.conf.queue))(hf: ¬ (fetchP d.prog d.fetch).isSome=false)(hw:(bE d.words (lineOf d.fetch)).2.isSome=false):dW n d=if Dl d.bus (lineOf d.fetch) 2=false∧qJ d false=true then iO d 2 (lineOf d.fetch) oC else d:=by
 cases n with
 |zero=>cases hn
 |succ n=>exact ((if_neg h).trans (if_neg hf)).trans (if_pos hw)
theorem sN{d:Co}{n k:Nat}(hn:k<n)(h: ¬ (d.stop=true∨(d.fetched.length:Int)≥d.conf.queue))(hf: ¬ (fetchP d.prog d.fetch).isSome=false)(hw: ¬ (bE d.words (lineOf d.fetch)).2.isSome=false):dW (n - (k+1)) (wR d)=dW (n - k) d:=by
 rw[show n - k=(n - (k+1))+1 by omega];exact (((if_neg h).trans (if_neg hf)).trans (if_neg hw)).symm
theorem Vo(c:Co)(nb:Nat)(hm:c.okM nb)(w:Nat)(hw:w≤4294967295)(kR:Bool)(xR:List (List AV))(kF:Bool)(xF:List (List AV))(kS:Bool)(xS:List (List AV))(kT:Bool)(xT:List (List AV)):pV C0.P C0.G 119 [.ptr 0 0,vU w] (heapF [(0,.box (mcX c (.sl 17 xR kR) (.sl 2 xF kF) (.sl 2 xS kS) (.sl 9 xT kT)))]) 1 (λ x h'=>x=vU (cH c w).2∧h'=heapF [(0,.box (mcX (cH c w).1 (.sl 17 xR kR) (.sl 2 xF kF) (.sl 2 xS kS) (.sl 9 xT kT)))]):=by
 refine HCall.intro (C:=C1) (s:=1) c1Ok.at Tryz.func119 rfl rfl (by kernel_rfl) rfl rfl<|cSR<|oR 1 rfl<|rE 2<|cSR<|oR 1 rfl<|rCi rfl (KU w (BA hw))<|oR 3 rfl<|rAl 7 rfl rfl<|rSt rfl<|oR 1 rfl<|rE 10<|bW<|bW ?_;refine cRg<|oR 1 rfl<|rW (vB ((decE w) != 0)) rfl (okB (neN _ _))<|oR 1 rfl<|gN rfl<|kM (args:=[.agg [vI ((lN w).op),vI ((lN w).rd),vI ((lN w).rs1),vI ((lN w).rs2),vU ((lN w).imm)]]) (x:=vN (kindOf (lN w).op)) (g:= !((decE w) != 0)) rfl rfl rfl rfl (λ h=>h) rfl rfl rfl (.inl rfl) rfl (λ hg=>qN (lN w))<|gBS (x:=vB ((kindOf (lN w).op) != 5)) rfl id (okB (neN _ _))<|cV rfl rfl rfl (by simp)<|rE 17 ?_;refine aW rfl (λ h1=>?_) (λ h1=>?_)
 ·have hk1:(EU w=0∨kindOf (lN w).op≠5):=by have z:=h1;have e:=CA w;simp only[c2o,dF,dV,pT,iA,ne_eq]at z;grind
  refine cSR<|oR 5 rfl ?_;have b1:(c.fetch+4) % 4294967296≤4294967295:=aR (bA _ (by decide));refine rV (vU ((c.fetch+4) % 4294967296)) rfl<|oR 1 rfl<|rE 24<|cO ?_;rw[show cH c w=(c,up4 c.fetch)from if_pos hk1];exact pG (rs:=[vU ((c.fetch+4) % 4294967296)]) rfl (r:=vU ((c.fetch+4) % 4294967296)) (σ:=λ z=>z) ⟨rfl,rfl⟩ rfl (cE (λ z=>z) rfl rfl wH rfl)
 ·have hk1: ¬ (EU w=0∨kindOf (lN w).op≠5):=by have z:=h1;have e:=CA w;simp only[c2o,dF,dV,pT,iA,ne_eq]at z;grind
  refine bB<|bW<|cSR<|oR 6 rfl<|rE 23 ?_;refine aW rfl (λ h2=>?_) (λ h2=>?_)
  ·refine cSR<|oR 11 rfl<|rCi rfl (Qk c.guess c.fetch (lN w) hm.ok.guess hm.ok.fetch (aR (HH w)))<|oR 1 rfl<|rE 36<|cO ?_;rw[show cH c w=(c,vX c.guess c.fetch (lN w))from (if_neg hk1).trans (if_pos h2)];exact pG (rs:=[vU (vX c.guess c.fetch (lN w))]) rfl (r:=vU (vX c.guess c.fetch (lN w))) (σ:=λ z=>z) ⟨rfl,rfl⟩ rfl (cE (λ z=>z) rfl rfl wH rfl)
  ·refine bB<|cSR<|oR 15 rfl<|rCi rfl (Pu c.conf c.guessed c.fetch hm.conf hm.ok.guessed hm.ok.fetch)<|oR 1 rfl<|rE 40<|cSR<|oR 5 rfl<|rW (vI (wrap64 (c.guessed+1))) rfl (okI (w64 _))<|oR 3 rfl<|rSx 0 (mcX ({c with guessed:=wrap64 (c.guessed+1)}:Co) (.sl 17 xR kR) (.sl 2 xF kF) (.sl 2 xS kS) (.sl 9 xT kT)) rfl rfl rfl<|rE 50<|cSR ?_;refine oR 2 rfl<|rE 52<|cO ?_;rw[show cH c w=({c with guessed:=wrap64 (c.guessed+1)},wY c.conf c.guessed c.fetch)from (if_neg hk1).trans (if_neg (by rw[h2];decide))];exact pG (rs:=[vU (wY c.conf c.guessed c.fetch)]) rfl (r:=vU (wY c.conf c.guessed c.fetch)) (σ:=λ z=>z) ⟨rfl,rfl⟩ rfl (cE (λ z=>z) rfl rfl wH rfl)
theorem Sg(c:Co)(nb:Nat)(hm:c.okM nb)(w:Nat)(hw:w≤4294967295)(kR:Bool)(xR:List (List AV))(lF nF:Nat)(kF:Bool)(rF:List (List AV))(kS:Bool)(xS:List (List AV))(kT:Bool)(xT:List (List AV)):pV C0.P C0.G 119 [.ptr 0 0,vU w] (heapF [(0,.box (mcX c (.sl 17 xR kR) (.osl 1 lF nF kF) (.sl 2 xS kS) (.sl 9 xT kT))),(1,.arr rF 2)]) 2 (λ x h'=>x=vU (cH c w).2∧h'=heapF [(0,.box (mcX (cH c w).1 (.sl 17 xR kR) (.osl 1 lF nF kF) (.sl 2 xS kS) (.sl 9 xT kT))),(1,.arr rF 2)]):=by
 refine HCall.intro (C:=C1) (s:=2) c1Ok.at Tryz.func119 rfl rfl (by kernel_rfl) rfl rfl<|cSR<|oR 1 rfl<|rE 3<|cSR<|oR 1 rfl<|rCi rfl (KU w (BA hw))<|oR 3 rfl<|rAl 8 rfl rfl<|rSt rfl<|oR 1 rfl<|rE 11<|bW<|bW ?_;refine cRg<|oR 1 rfl<|rW (vB ((decE w) != 0)) rfl (okB (neN _ _))<|oR 1 rfl<|gN rfl<|kM (args:=[.agg [vI ((lN w).op),vI ((lN w).rd),vI ((lN w).rs1),vI ((lN w).rs2),vU ((lN w).imm)]]) (x:=vN (kindOf (lN w).op)) (g:= !((decE w) != 0)) rfl rfl rfl rfl (λ h=>h) rfl rfl rfl (.inl rfl) rfl (λ hg=>qN (lN w))<|gBS (x:=vB ((kindOf (lN w).op) != 5)) rfl id (okB (neN _ _))<|cV rfl rfl rfl (by simp)<|rE 18 ?_;refine aW rfl (λ h1=>?_) (λ h1=>?_)
 ·have hk1:(EU w=0∨kindOf (lN w).op≠5):=by have z:=h1;have e:=CA w;simp only[c2o,dF,dV,pT,iA,ne_eq]at z;grind
  refine cSR<|oR 5 rfl ?_;have b1:(c.fetch+4) % 4294967296≤4294967295:=aR (bA _ (by decide));refine rV (vU ((c.fetch+4) % 4294967296)) rfl<|oR 1 rfl<|rE 25<|cO ?_;rw[show cH c w=(c,up4 c.fetch)from if_pos hk1];exact pG (rs:=[vU ((c.fetch+4) % 4294967296)]) rfl (r:=vU ((c.fetch+4) % 4294967296)) (σ:=λ z=>z) ⟨rfl,rfl⟩ rfl (cE (λ z=>z) rfl rfl wH rfl)
 ·have hk1: ¬ (EU w=0∨kindOf (lN w).op≠5):=by have z:=h1;have e:=CA w;simp only[c2o,dF,dV,pT,iA,ne_eq]at z;grind
  refine bB<|bW<|cSR<|oR 6 rfl<|rE 24 ?_;refine aW rfl (λ h2=>?_) (λ h2=>?_)
  ·refine cSR<|oR 11 rfl<|rCi rfl (Qk c.guess c.fetch (lN w) hm.ok.guess hm.ok.fetch (aR (HH w)))<|oR 1 rfl<|rE 37<|cO ?_;rw[show cH c w=(c,vX c.guess c.fetch (lN w))from (if_neg hk1).trans (if_pos h2)];exact pG (rs:=[vU (vX c.guess c.fetch (lN w))]) rfl (r:=vU (vX c.guess c.fetch (lN w))) (σ:=λ z=>z) ⟨rfl,rfl⟩ rfl (cE (λ z=>z) rfl rfl wH rfl)
  ·refine bB<|cSR<|oR 15 rfl<|rCi rfl (Pu c.conf c.guessed c.fetch hm.conf hm.ok.guessed hm.ok.fetch)<|oR 1 rfl<|rE 41<|cSR<|oR 5 rfl<|rW (vI (wrap64 (c.guessed+1))) rfl (okI (w64 _))<|oR 3 rfl<|rSx 0 (mcX ({c with guessed:=wrap64 (c.guessed+1)}:Co) (.sl 17 xR kR) (.osl 1 lF nF kF) (.sl 2 xS kS) (.sl 9 xT kT)) rfl rfl rfl<|rE 51<|cSR ?_;refine oR 2 rfl<|rE 53<|cO ?_;rw[show cH c w=({c with guessed:=wrap64 (c.guessed+1)},wY c.conf c.guessed c.fetch)from (if_neg hk1).trans (if_neg (by rw[h2];decide))];exact pG (rs:=[vU (wY c.conf c.guessed c.fetch)]) rfl (r:=vU (wY c.conf c.guessed c.fetch)) (σ:=λ z=>z) ⟨rfl,rfl⟩ rfl (cE (λ z=>z) rfl rfl wH rfl)
theorem Sh(c:Co)(nb:Nat)(hm:c.okM nb)(kR:Bool)(xR:List (List AV))(kS:Bool)(xS:List (List AV))(kT:Bool)(xT:List (List AV)):pV C0.P C0.G 57 [.ptr 0 0] (heapF [(0,.box (mcX c (.sl 17 xR kR) (.sl 2 (c.fetched.map ftL) true) (.sl 2 xS kS) (.sl 9 xT kT)))]) 1 (λ x h'=>x=.tup []∧h'=heapF [(0,.box (mcX (dJ c) (.sl 17 xR kR) (.sl 2 ((dJ c).fetched.map ftL) false) (.sl 2 xS kS) (.sl 9 xT kT)))]):=by
 refine HCall.intro (C:=C1) (s:=1) c1Ok.at Tryz.func57 rfl rfl (by kernel_rfl) rfl rfl ?_;obtain⟨W,hW,hW2⟩:∃ W:Nat,c.conf.width=(W:Int)∧W≤2:=⟨c.conf.width.toNat,by have:=mT hm.cf;omega,by have:=mT hm.cf;omega⟩;refine bW<|cSR<|oR 5 rfl<|rV (vB (c.halt != 0)) rfl<|rE 7<|aW rfl (λ h1=>?_) (λ h1=>?_)
 ·have h1p:=vH h1;refine cO ?_;have e:dJ c=c:=if_pos h1p;rw[e];exact CY (.refl _) none ⟨rfl,rfl⟩ (ghX rfl (qO (.refl _) (.clip _ _) (.refl _) (.refl _)) trivial)
 ·have h1p:=vJ h1;refine bB<|cSR<|oR 7 rfl<|rE 14<|bK<|rY (κ:=Nat×Co×Bool) (λ z_=>match z_ with|(k,d,false)=>⟨slotsF [(0,.ptr 0 0),(14,vB (c.halt != 0)),(20,vI c.conf.width),(21,vN k)],heapF [(0,.box (mcX d (.sl 17 xR kR) (.sl 2 (d.fetched.map ftL) true) (.sl 2 xS kS) (.sl 9 xT kT)))],15⟩|(k,d,true)=>⟨slotsF [(0,.ptr 0 0),(14,vB (c.halt != 0)),(20,vI c.conf.width),(21,vN k)],heapF [(0,.box (mcX d (.sl 17 xR kR) (.osl 14 0 d.fetched.length false) (.sl 2 xS kS) (.sl 9 xT kT))),(14,.arr (d.fetched.map ftL) 2)],15⟩) (λ z_=>match z_ with|(k,d,_)=>k≤W∧d.okM nb∧dW (W - k) d=dW W c) (λ z_=>W - z_.1) (0,c,false) (λ s=>s) (Weak.of_lists (λ s=>s) wT wH rfl) rfl (⟨aE _,hm,rfl⟩) ?_;intro z_ hk;obtain⟨k,d,b_⟩:=z_;cases b_
  ·have hkn:k≤W:=hk.1;have hkB:k≤2:=by omega
   have hd:d.okM nb:=hk.2.1;have hG:dW (W - k) d=dW W c:=hk.2.2;refine cSR<|rV (vB (decide ((k:Int)<c.conf.width))) rfl<|rE 16<|bW<|aW rfl (λ h2=>?_) (λ h2=>?_)
   ·have h2p:=of_decide_eq_true h2;refine bB<|bW<|bK<|bW<|cSR<|oR 6 rfl<|gN rfl<|gS rfl id<|gS rfl id<|gS rfl id<|gS rfl id<|gBS (x:=vN d.fetched.length) rfl id (bY ftL d.fetched)<|gN rfl<|gS rfl id<|gS rfl id<|gS rfl id<|gS rfl id<|gS rfl id<|gBS (x:=vB (decide (((d.fetched.length:Nat):Int)≥d.conf.queue))) rfl hsT rfl<|cV rfl rfl rfl (by simp)<|rE 36<|aW rfl (λ h3=>?_) (λ h3=>?_)
    ·have hst:(d.stop=true∨(d.fetched.length:Int)≥d.conf.queue):=by have z:=h3;simpa [c2o]using z
     refine cO ?_;have e0:dJ c=dW W c:=by show (if c.halt≠0 then c else dW c.conf.width.toNat c)=_;rw[if_neg (λ q=>q h1p),hW];rfl
     have e:dJ c=d:=by rw[e0, ←hG];exact pL hst
     rw[e];exact CY (.refl _) none ⟨rfl,rfl⟩ (ghX rfl (qO (.refl _) (.clip _ _) (.refl _) (.refl _)) trivial)
    ·have hst: ¬ (d.stop=true∨(d.fetched.length:Int)≥d.conf.queue):=by have z:=h3;simpa [c2o]using z
     have hfl:d.fetched.length≤3:=by have:=mT hd.cf;omega
     refine bB<|cSR<|oR 10 rfl<|rCi rfl (Qb d.prog d.fetch false hd.ok.progo (by have:=hd.prog;omega) hd.ok.fetch)<|oR 5 rfl<|rE 52<|bW<|cSR<|oR 2 rfl<|rE 54<|aW rfl (λ h4=>?_) (λ h4=>?_)
     ·refine cSR<|oR 16 rfl ?_;have b1:(d.fetch+4) % 4294967296≤4294967295:=aR (bA _ (by decide));refine rV (vU ((d.fetch+4) % 4294967296)) rfl<|rV (.agg [vU d.fetch,vU ((d.fetch+4) % 4294967296)]) rfl<|rV (.sl 2 ([[vU d.fetch,vU ((d.fetch+4) % 4294967296)]]) true) rfl<|rFx (x:=.osl 73 0 (d.fetched.length+1) false) (h':=upd _ 73 (some (.arr ((d.fetched++([(⟨d.fetch,(d.fetch+4) % 4294967296⟩:Ft)])).map ftL) 2))) rfl rfl (zL ftL d.fetched ([(⟨d.fetch,(d.fetch+4) % 4294967296⟩:Ft)]) omT) (⟨by exact omT,by exact omT,trivial,trivial⟩)<|oR 3 rfl<|rSt rfl<|rE 78<|cSR<|oR 4 rfl<|rSx 0 (mcX ({d with stop:=true}:Co) (.sl 17 xR kR) (.osl 73 0 (d.fetched.length+1) false) (.sl 2 xS kS) (.sl 9 xT kT)) rfl rfl rfl<|rE 83<|cO ?_;have e0:dJ c=dW W c:=by show (if c.halt≠0 then c else dW c.conf.width.toNat c)=_;rw[if_neg (λ q=>q h1p),hW];rfl
      have e:dJ c={d with fetched:=d.fetched++[⟨d.fetch,up4 d.fetch⟩],stop:=true}:=by rw[e0, ←hG];exact qU omT hst (EX h4)
      rw[e];exact CY (.refl _) (some (73,2,(d.fetched++([(⟨d.fetch,(d.fetch+4) % 4294967296⟩:Ft)])).map ftL)) ⟨rfl,rfl⟩ (ghX rfl (qO (.refl _) (mW (by exact omT)) (.refl _) (.refl _)) trivial)
     ·refine bB<|cSR<|oR 5 rfl<|rCi rfl (sU d.fetch hd.ok.fetch)<|oR 1 rfl<|rE 61<|bW<|cSR<|oR 6 rfl<|rCi rfl (zJ d.words (lineOf d.fetch) hd.ok.words (dR hd.ok.fetch))<|oR 7 rfl<|rE 75<|cSR<|oR 2 rfl<|rE 77<|aW rfl (λ h5=>?_) (λ h5=>?_)
      ·refine bW<|cSR<|oR 6 rfl<|rV (.sl 1 ([[vI 2]]) true) rfl<|rCl (x:=vB (Dl d.bus (lineOf d.fetch) 2)) rfl (.inl rfl) ((show bX C0 _ [_,_,.sl 1 ([(2:Int)].map iL) true] _ from by rw[←Je];exact Qt d.bus (lineOf d.fetch) [2] false true (by have:=hd.bus;omega) (λ x hx=>(hd.ok.buso x hx).line) (dR hd.ok.fetch) (by decide)))<|oR 2 rfl<|gN rfl<|kM (x:=vB (qJ d false)) (g:= !(Dl d.bus (lineOf d.fetch) 2)) rfl rfl rfl rfl (λ h=>h) rfl rfl rfl (.inr ⟨rfl,⟨trivial,trivial,trivial⟩⟩) rfl (λ hg=>Sj d nb hd (.sl 17 xR kR) (.sl 2 (d.fetched.map ftL) true) (.sl 2 xS kS) (.sl 9 xT kT) false)<|cV rfl rfl rfl (λ h=>h)<|rE 90<|aW rfl (λ h6=>?_) (λ h6=>?_)
       ·have hra:(Dl d.bus (lineOf d.fetch) 2=false∧qJ d false=true):=by have z:=h6;simpa [c2a]using z
        refine cRg<|oR 2 rfl<|fW _ rfl rfl rfl ((XB d nb hd 2 (lineOf d.fetch) oC (dR hd.ok.fetch) kR xR true (d.fetched.map ftL) kS xS kT xT).frameB (λ z=>z) _ _ rfl ⟨⟨rfl,rfl,rfl,rfl⟩,trivial⟩ rfl rfl rfl rfl) ?_;rintro _ _ ⟨rfl,rfl⟩;refine rE 93<|cO ?_;have e0:dJ c=dW W c:=by show (if c.halt≠0 then c else dW c.conf.width.toNat c)=_;rw[if_neg (λ q=>q h1p),hW];rfl
        have e:dJ c=iO d 2 (lineOf d.fetch) oC:=by rw[e0, ←hG];exact (nJ omT hst (rI h4) (EX h5)).trans (if_pos hra)
        rw[e];exact CY (.refl _) none ⟨rfl,rfl⟩ (ghX rfl (qO (.refl _) (.clip _ _) (.refl _) (.refl _)) trivial)
       ·have hra: ¬ (Dl d.bus (lineOf d.fetch) 2=false∧qJ d false=true):=by have z:=h6;simpa [c2a]using z
        refine bB<|cO ?_;have e0:dJ c=dW W c:=by show (if c.halt≠0 then c else dW c.conf.width.toNat c)=_;rw[if_neg (λ q=>q h1p),hW];rfl
        have e:dJ c=d:=by rw[e0, ←hG];exact (nJ omT hst (rI h4) (EX h5)).trans (if_neg hra)
        rw[e];exact CY (.refl _) none ⟨rfl,rfl⟩ (ghX rfl (qO (.refl _) (.clip _ _) (.refl _) (.refl _)) trivial)
      ·refine bB<|cSR<|oR 7 rfl<|rCi rfl (Hp d.words (lineOf d.fetch) hd.ok.words (dR hd.ok.fetch))<|oR 3 rfl<|rSx 0 (mcX ({d with words:=(mG d.words (lineOf d.fetch))}:Co) (.sl 17 xR kR) (.sl 2 (d.fetched.map ftL) true) (.sl 2 xS kS) (.sl 9 xT kT)) rfl rfl rfl<|rE 89<|cSR<|oR 2 rfl<|fW _ rfl rfl rfl ((Vo (gU d) nb (Ad hd) (fetchW d.prog d.fetch) (Hl hd.ok.progo d.fetch) kR xR true (d.fetched.map ftL) kS xS kT xT).frameB (λ z=>z) _ _ rfl ⟨⟨rfl,rfl,rfl,rfl⟩,trivial⟩ rfl rfl rfl rfl) ?_;rintro _ _ ⟨rfl,rfl⟩;refine oR 1 rfl<|rE 93<|cSR<|oR 12 rfl<|rV (.agg [vU ((cH (gU d) (fetchW d.prog d.fetch)).1.fetch),vU ((cH (gU d) (fetchW d.prog d.fetch)).2)]) rfl<|rV (.sl 2 ([[vU ((cH (gU d) (fetchW d.prog d.fetch)).1.fetch),vU ((cH (gU d) (fetchW d.prog d.fetch)).2)]]) true) rfl<|rFx (x:=.osl 107 0 (d.fetched.length+1) false) (h':=upd _ 107 (some (.arr ((d.fetched++([(⟨(cH (gU d) (fetchW d.prog d.fetch)).1.fetch,(cH (gU d) (fetchW d.prog d.fetch)).2⟩:Ft)])).map ftL) 2))) rfl rfl (zL ftL d.fetched ([(⟨(cH (gU d) (fetchW d.prog d.fetch)).1.fetch,(cH (gU d) (fetchW d.prog d.fetch)).2⟩:Ft)]) omT) (⟨by exact omT,by exact omT,trivial,trivial⟩)<|oR 3 rfl<|rSt rfl<|rE 112<|cRg<|oR 5 rfl<|rSx 0 (mcX ({ (cH (gU d) (fetchW d.prog d.fetch)).1 with fetch:=(cH (gU d) (fetchW d.prog d.fetch)).2}:Co) (.sl 17 xR kR) (.osl 107 0 (d.fetched.length+1) false) (.sl 2 xS kS) (.sl 9 xT kT)) rfl rfl rfl<|rE 118<|cRg ?_;have b2:k+1≤3:=aH hkB (aC 1);refine rW (vN (k+1)) rfl (okI (bV b2 rfl))<|oR 1 rfl<|rE 120<|.mk _ (.refl _) ⟨(k+1,wR d,true),λ i=>match i with|14=>107|i=>i,Weak.of_lists _ wT ⟨⟨rfl,(congrArg (λ z:Nat=>some (Blk.box (mcX (wR d) (.sl 17 xR kR) (.osl 107 0 z false) (.sl 2 xS kS) (.sl 9 xT kT)))) (show d.fetched.length+1=(wR d).fetched.length from by rw[tA];simp)),rfl⟩,⟨rfl,(congrArg (λ z:List Ft=>some (Blk.arr (z.map ftL) 2)) (tA d).symm),rfl⟩,trivial⟩ rfl,rfl,⟨by omega,Cg hd omT,(sN omT hst (rI h4) (rI h5)).trans hG⟩,by show W - (k+1)<W - k;omega⟩
   ·have h2p:=aD h2;refine eE ?_;have e0:dJ c=dW W c:=by show (if c.halt≠0 then c else dW c.conf.width.toNat c)=_;rw[if_neg (λ q=>q h1p),hW];rfl
    have e:dJ c=d:=by rw[e0, ←hG];rw[show W - k=0 by omega];rfl
    rw[e];exact CY (.refl _) none ⟨rfl,rfl⟩ (ghX rfl (qO (.refl _) (.clip _ _) (.refl _) (.refl _)) trivial)
  ·have hkn:k≤W:=hk.1;have hkB:k≤2:=by omega
   have hd:d.okM nb:=hk.2.1;have hG:dW (W - k) d=dW W c:=hk.2.2;refine cSR<|rV (vB (decide ((k:Int)<c.conf.width))) rfl<|rE 16<|bW<|aW rfl (λ h7=>?_) (λ h7=>?_)
   ·have h7p:=of_decide_eq_true h7;refine bB<|bW<|bK<|bW<|cSR<|oR 6 rfl<|gN rfl<|gS rfl id<|gS rfl id<|gS rfl id<|gS rfl id<|gBS (x:=vI (d.fetched.length:Int)) rfl id rfl<|gN rfl<|gS rfl id<|gS rfl id<|gS rfl id<|gS rfl id<|gS rfl id<|gBS (x:=vB (decide ((d.fetched.length:Int)≥d.conf.queue))) rfl hsT rfl<|cV rfl rfl rfl (by simp)<|rE 36<|aW rfl (λ h8=>?_) (λ h8=>?_)
    ·have hst:(d.stop=true∨(d.fetched.length:Int)≥d.conf.queue):=by have z:=h8;simpa [c2o]using z
     refine cO ?_;have e0:dJ c=dW W c:=by show (if c.halt≠0 then c else dW c.conf.width.toNat c)=_;rw[if_neg (λ q=>q h1p),hW];rfl
     have e:dJ c=d:=by rw[e0, ←hG];exact pL hst
     rw[e];exact CY (.refl _) (some (14,2,d.fetched.map ftL)) ⟨rfl,rfl⟩ (ghX rfl (qO (.refl _) (mW (by exact omT)) (.refl _) (.refl _)) trivial)
    ·have hst: ¬ (d.stop=true∨(d.fetched.length:Int)≥d.conf.queue):=by have z:=h8;simpa [c2o]using z
     have hfl:d.fetched.length≤3:=by have:=mT hd.cf;omega
     refine bB<|cSR<|oR 10 rfl<|rCi rfl (Qb d.prog d.fetch false hd.ok.progo (by have:=hd.prog;omega) hd.ok.fetch)<|oR 5 rfl<|rE 52<|bW<|cSR<|oR 2 rfl<|rE 54<|aW rfl (λ h9=>?_) (λ h9=>?_)
     ·refine cSR<|oR 16 rfl ?_;have b3:(d.fetch+4) % 4294967296≤4294967295:=aR (bA _ (by decide));refine rV (vU ((d.fetch+4) % 4294967296)) rfl<|rV (.agg [vU d.fetch,vU ((d.fetch+4) % 4294967296)]) rfl<|rV (.sl 2 ([[vU d.fetch,vU ((d.fetch+4) % 4294967296)]]) true) rfl<|rFx (x:=.osl 73 0 (d.fetched.length+1) false) (h':=upd (upd _ 14 none) 73 (some (.arr ((d.fetched++([(⟨d.fetch,(d.fetch+4) % 4294967296⟩:Ft)])).map ftL) 2))) rfl rfl (jL ftL d.fetched ([(⟨d.fetch,(d.fetch+4) % 4294967296⟩:Ft)]) omT omT) (⟨by exact omT,by exact omT,trivial⟩)<|oR 3 rfl<|rSt rfl<|rE 78<|cSR<|oR 4 rfl<|rSx 0 (mcX ({d with stop:=true}:Co) (.sl 17 xR kR) (.osl 73 0 (d.fetched.length+1) false) (.sl 2 xS kS) (.sl 9 xT kT)) rfl rfl rfl<|rE 83<|cO ?_;have e0:dJ c=dW W c:=by show (if c.halt≠0 then c else dW c.conf.width.toNat c)=_;rw[if_neg (λ q=>q h1p),hW];rfl
      have e:dJ c={d with fetched:=d.fetched++[⟨d.fetch,up4 d.fetch⟩],stop:=true}:=by rw[e0, ←hG];exact qU omT hst (EX h9)
      rw[e];exact CY (.refl _) (some (73,2,(d.fetched++([(⟨d.fetch,(d.fetch+4) % 4294967296⟩:Ft)])).map ftL)) ⟨rfl,rfl⟩ (ghX rfl (qO (.refl _) (mW (by exact omT)) (.refl _) (.refl _)) trivial)
     ·refine bB<|cSR<|oR 5 rfl<|rCi rfl (sU d.fetch hd.ok.fetch)<|oR 1 rfl<|rE 61<|bW<|cSR<|oR 6 rfl<|rCi rfl (zJ d.words (lineOf d.fetch) hd.ok.words (dR hd.ok.fetch))<|oR 7 rfl<|rE 75<|cSR<|oR 2 rfl<|rE 77<|aW rfl (λ h10=>?_) (λ h10=>?_)
      ·refine bW<|cSR<|oR 6 rfl<|rV (.sl 1 ([[vI 2]]) true) rfl<|rCl (x:=vB (Dl d.bus (lineOf d.fetch) 2)) rfl (.inl rfl) ((show bX C0 _ [_,_,.sl 1 ([(2:Int)].map iL) true] _ from by rw[←Je];exact Qt d.bus (lineOf d.fetch) [2] false true (by have:=hd.bus;omega) (λ x hx=>(hd.ok.buso x hx).line) (dR hd.ok.fetch) (by decide)))<|oR 2 rfl<|gN rfl<|kM (x:=vB (qJ d false)) (g:= !(Dl d.bus (lineOf d.fetch) 2)) rfl rfl rfl rfl (λ h=>h) rfl rfl rfl (.inr ⟨rfl,⟨trivial,trivial,trivial⟩⟩) rfl (λ hg=>Sj d nb hd (.sl 17 xR kR) .any (.sl 2 xS kS) (.sl 9 xT kT) false)<|cV rfl rfl rfl (λ h=>h)<|rE 90<|aW rfl (λ h11=>?_) (λ h11=>?_)
       ·have hra:(Dl d.bus (lineOf d.fetch) 2=false∧qJ d false=true):=by have z:=h11;simpa [c2a]using z
        refine cRg<|oR 2 rfl<|fW _ rfl rfl rfl ((Ze d nb hd 2 (lineOf d.fetch) oC (dR hd.ok.fetch) kR xR 0 d.fetched.length false (d.fetched.map ftL) kS xS kT xT).frameB (λ z=>match z with|1=>14|z=>z) _ _ rfl ⟨⟨rfl,rfl,rfl,rfl⟩,⟨rfl,rfl,rfl,rfl⟩,trivial⟩ rfl rfl rfl rfl) ?_;rintro _ _ ⟨rfl,rfl⟩;refine rE 93<|cO ?_;have e0:dJ c=dW W c:=by show (if c.halt≠0 then c else dW c.conf.width.toNat c)=_;rw[if_neg (λ q=>q h1p),hW];rfl
        have e:dJ c=iO d 2 (lineOf d.fetch) oC:=by rw[e0, ←hG];exact (nJ omT hst (rI h9) (EX h10)).trans (if_pos hra)
        rw[e];exact CY (.refl _) (some (14,2,d.fetched.map ftL)) ⟨rfl,rfl⟩ (ghX rfl (qO (.refl _) (mW (by exact omT)) (.refl _) (.refl _)) trivial)
       ·have hra: ¬ (Dl d.bus (lineOf d.fetch) 2=false∧qJ d false=true):=by have z:=h11;simpa [c2a]using z
        refine bB<|cO ?_;have e0:dJ c=dW W c:=by show (if c.halt≠0 then c else dW c.conf.width.toNat c)=_;rw[if_neg (λ q=>q h1p),hW];rfl
        have e:dJ c=d:=by rw[e0, ←hG];exact (nJ omT hst (rI h9) (EX h10)).trans (if_neg hra)
        rw[e];exact CY (.refl _) (some (14,2,d.fetched.map ftL)) ⟨rfl,rfl⟩ (ghX rfl (qO (.refl _) (mW (by exact omT)) (.refl _) (.refl _)) trivial)
      ·refine bB<|cSR<|oR 7 rfl<|rCi rfl (Hp d.words (lineOf d.fetch) hd.ok.words (dR hd.ok.fetch))<|oR 3 rfl<|rSx 0 (mcX ({d with words:=(mG d.words (lineOf d.fetch))}:Co) (.sl 17 xR kR) (.osl 14 0 d.fetched.length false) (.sl 2 xS kS) (.sl 9 xT kT)) rfl rfl rfl<|rE 89<|cSR<|oR 2 rfl<|fW _ rfl rfl rfl ((Sg (gU d) nb (Ad hd) (fetchW d.prog d.fetch) (Hl hd.ok.progo d.fetch) kR xR 0 d.fetched.length false (d.fetched.map ftL) kS xS kT xT).frameB (λ z=>match z with|1=>14|z=>z) _ _ rfl ⟨⟨rfl,rfl,rfl,rfl⟩,⟨rfl,rfl,rfl,rfl⟩,trivial⟩ rfl rfl rfl rfl) ?_;rintro _ _ ⟨rfl,rfl⟩;refine oR 1 rfl<|rE 93<|cSR<|oR 12 rfl<|rV (.agg [vU ((cH (gU d) (fetchW d.prog d.fetch)).1.fetch),vU ((cH (gU d) (fetchW d.prog d.fetch)).2)]) rfl<|rV (.sl 2 ([[vU ((cH (gU d) (fetchW d.prog d.fetch)).1.fetch),vU ((cH (gU d) (fetchW d.prog d.fetch)).2)]]) true) rfl<|rFx (x:=.osl 107 0 (d.fetched.length+1) false) (h':=upd (upd _ 14 none) 107 (some (.arr ((d.fetched++([(⟨(cH (gU d) (fetchW d.prog d.fetch)).1.fetch,(cH (gU d) (fetchW d.prog d.fetch)).2⟩:Ft)])).map ftL) 2))) rfl rfl (jL ftL d.fetched ([(⟨(cH (gU d) (fetchW d.prog d.fetch)).1.fetch,(cH (gU d) (fetchW d.prog d.fetch)).2⟩:Ft)]) omT omT) (⟨by exact omT,by exact omT,trivial⟩)<|oR 3 rfl<|rSt rfl<|rE 112<|cRg<|oR 5 rfl<|rSx 0 (mcX ({ (cH (gU d) (fetchW d.prog d.fetch)).1 with fetch:=(cH (gU d) (fetchW d.prog d.fetch)).2}:Co) (.sl 17 xR kR) (.osl 107 0 (d.fetched.length+1) false) (.sl 2 xS kS) (.sl 9 xT kT)) rfl rfl rfl<|rE 118<|cRg ?_;have b4:k+1≤3:=aH hkB (aC 1);refine rW (vN (k+1)) rfl (okI (bV b4 rfl))<|oR 1 rfl<|rE 120<|.mk _ (.refl _) ⟨(k+1,wR d,true),λ i=>match i with|14=>107|i=>i,Weak.of_lists _ wT ⟨⟨rfl,(congrArg (λ z:Nat=>some (Blk.box (mcX (wR d) (.sl 17 xR kR) (.osl 107 0 z false) (.sl 2 xS kS) (.sl 9 xT kT)))) (show d.fetched.length+1=(wR d).fetched.length from by rw[tA];simp)),rfl⟩,⟨rfl,(congrArg (λ z:List Ft=>some (Blk.arr (z.map ftL) 2)) (tA d).symm),rfl⟩,trivial⟩ rfl,rfl,⟨by omega,Cg hd omT,(sN omT hst (rI h9) (rI h10)).trans hG⟩,by show W - (k+1)<W - k;omega⟩
   ·have h7p:=aD h7;refine eE ?_;have e0:dJ c=dW W c:=by show (if c.halt≠0 then c else dW c.conf.width.toNat c)=_;rw[if_neg (λ q=>q h1p),hW];rfl
    have e:dJ c=d:=by rw[e0, ←hG];rw[show W - k=0 by omega];rfl
    rw[e];exact CY (.refl _) (some (14,2,d.fetched.map ftL)) ⟨rfl,rfl⟩ (ghX rfl (qO (.refl _) (mW (by exact omT)) (.refl _) (.refl _)) trivial)
theorem OW{no:Int}{f:Ft}{prog:List Nat}(hf:f.ok):(qI no f prog).ok:=by
 have hi:(lN (fetchW prog f.pc)).imm≤4294967295:=aR (HH _);unfold qI
 repeat' split
 all_goals first|exact⟨hf.pc,aE _,hf.guess,aE _,aE _,aE _⟩|exact⟨hf.pc,hi,hf.guess,aE _,yL _,aE _⟩|exact⟨hf.pc,hi,hf.guess,aE _,aE _,aE _⟩|exact⟨hf.pc,hi,hf.guess,aE _,hf.pc,aE _⟩
def FI(d:Co)(f:Ft):Co:={d with rob:=d.rob++[qI d.next f d.prog],next:=wrap64 (d.next+1),fetched:=d.fetched.drop 1}
theorem qT{d:Co}{n:Nat}(h:(d.rob.length:Int)≥d.conf.rob∨d.fetched.length=0):iT n d=d:=by
 cases n with
 |zero=>rfl
 | succ n=>
  unfold iT;by_cases h1:(d.rob.length:Int)≥d.conf.rob
  ·exact if_pos h1
  ·rw[if_neg h1];have hz:d.fetched=[]:=aX (h.resolve_left h1);rw[hz]
theorem uG{d:Co}{n k:Nat}{f:Ft}(hn:k<n)(h: ¬ (d.rob.length:Int)≥d.conf.rob)(hf:d.fetched[0]?=some f):iT (n - (k+1)) (FI d f)=iT (n - k) d:=by
 rw[show n - k=(n - (k+1))+1 by omega]
 conv=>rhs;unfold iT
 rw[if_neg h];unfold FI
 cases hz:d.fetched with
 |nil=>rw[hz]at hf;cases hf
 |cons y l=>rw[hz]at hf;injection hf with hf;subst hf;rfl
theorem Ce{c:Co}{n:Nat}{f:Ft}(h:c.okM n)(hf:f.ok)(hr:c.rob.length≤999):(FI c f).okM n:=by
 have hl:(c.rob++[qI c.next f c.prog]).length≤1000:=by simp;omega
 have hd:(c.fetched.drop 1).length≤1000:=by have:=h.fet;rw[aY];omega
 exact⟨⟨h.ok.conf,h.ok.prog,h.ok.progo,h.ok.r,h.ok.fetch,aM hd (by decide),Hu h.ok.feto,aM hl (by decide),rJ h.ok.robo (rK (P:=Ent.ok) (OW hf)),h.ok.sto,h.ok.stoo,h.ok.data,h.ok.words,h.ok.bus,h.ok.buso,h.ok.asked,h.ok.guessed,h.ok.mem,h.ok.guess,h.ok.ret,h.ok.reto⟩,h.nb,h.cf,h.data,h.words,h.guess,hl,hd,h.sto,h.prog,h.mem,h.std⟩
theorem Uc(rob:List Ent)(ck:Bool)(no:Int)(f:Ft)(prog:List Nat)(hl:rob.length≤1000)(ho:∀ x∈rob,x.ok)(hf:f.ok)(hp:∀ x∈prog,x≤4294967295)(hpl:prog.length≤1000000):bX C0 112 [.sl 17 (rob.map enL) ck,vI no,.agg (ftL f),.sl 1 (prog.map eX) false] (.sl 17 ((rob++[qI no f prog]).map enL) false):=by
 refine dc1 (bX.intro c1Ok Tryz.func112 rfl rfl (by kernel_rfl) rfl ?_);refine cSR<|rAl 0 rfl rfl<|oR 1 rfl<|rE 2<|cSR<|oR 5 rfl<|rV (.agg [vI no,vU f.pc,vI 0,vI 0,vI 0,vI 0,zU,vU f.guess,vI 0,vI 0,zU,zU,zU,vI 0,vI 0,vB false,vB false]) rfl<|rAl 8 rfl rfl<|rSt rfl<|rE 10<|cSR<|oR 3 rfl<|rCi rfl (Qb prog f.pc false hp hpl hf.pc)<|oR 5 rfl<|rE 19<|cSR<|oR 1 rfl<|rCi rfl (KU (fetchW prog f.pc) (BA (Hl hp f.pc)))<|oR 3 rfl<|rAl 24 rfl rfl<|rSt rfl<|oR 1 rfl<|rE 27<|bW<|bK<|cSR<|oR 3 rfl<|rE 30<|aW rfl (λ h1=>?_) (λ h1=>?_)
 ·refine cRg<|oR 1 rfl<|rSt rfl<|rE 32<|bW<|cSR<|oR 2 rfl<|rV (vB (1 != 0)) rfl<|rE 35<|aW rfl (λ _=>?_) (λ h2=>by exact absurd h2 (by decide));refine cRg<|oR 1 rfl<|rSt rfl<|rE 37<|cSR<|oR 2 rfl<|rW (vN rob.length) rfl (bY enL rob)<|oR 1 rfl<|rW (vN rob.length) rfl (bY enL rob)<|nW (.sl 17 ((rob.take rob.length).map enL) true) rfl (wU (uX enL rob rob.length)) (by refine⟨?_,?_,?_,?_⟩;all_goals (first|exact aG _|decide|(apply EJ.2;exact omT)|(show (_:Int)=(_:Int);congr 1;omega)|rfl))<|oR 1 rfl<|rV (.sl 17 ([[vI no,vU f.pc,vI 0,vI 0,vI 0,vI 0,zU,vU f.guess,vI 3,vI 0,zU,zU,zU,vI 1,vI 0,vB false,vB false]]) true) rfl<|rFx (x:=.osl 45 0 (rob.length+1) false) (h':=upd _ 45 (some (.arr (((rob.take rob.length)++([(⟨no,f.pc,⟨0,0,0,0,0⟩,f.guess,3,0,0,0,0,1,0,false,false⟩:Ent)])).map enL) 17))) rfl rfl (zL enL (rob.take rob.length) ([(⟨no,f.pc,⟨0,0,0,0,0⟩,f.guess,3,0,0,0,0,1,0,false,false⟩:Ent)]) omT) (⟨by exact omT,by exact omT,trivial,trivial⟩)<|oR 1 rfl<|rE 47<|cO ?_;have e:(⟨no,f.pc,⟨0,0,0,0,0⟩,f.guess,3,0,0,0,0,1,0,false,false⟩:Ent)=qI no f prog:=by unfold qI;rw[if_pos (EX h1)];rfl
  refine fG rfl (by show 0+(rob.length+1)≤(((rob.take rob.length)++([(⟨no,f.pc,⟨0,0,0,0,0⟩,f.guess,3,0,0,0,0,1,0,false,false⟩:Ent)])).map enL).length;exact omT) rfl ?_;show AV.sl 17 (List.take (rob.length+1) (List.drop 0 (((rob.take rob.length)++([(⟨no,f.pc,⟨0,0,0,0,0⟩,f.guess,3,0,0,0,0,1,0,false,false⟩:Ent)])).map enL))) false=_;rw[kG enL ((rob.take rob.length)++([(⟨no,f.pc,⟨0,0,0,0,0⟩,f.guess,3,0,0,0,0,1,0,false,false⟩:Ent)])) omT];rw[e,cS]
 ·refine cSR<|oR 1 rfl<|rW (vB ((decE (fetchW prog f.pc)) != 0)) rfl (okB (neN _ _))<|oR 1 rfl<|rE 33<|aW rfl (λ h3=>?_) (λ h3=>?_)
  ·have h3p:=vH h3;refine cRg<|oR 1 rfl<|rSt rfl<|rE 35<|bW<|cSR<|oR 2 rfl<|rV (vB (2 != 0)) rfl<|rE 38<|aW rfl (λ _=>?_) (λ h4=>by exact absurd h4 (by decide));refine cRg<|oR 1 rfl<|rSt rfl<|rE 40<|cSR<|oR 2 rfl<|rW (vN rob.length) rfl (bY enL rob)<|oR 1 rfl<|rW (vN rob.length) rfl (bY enL rob)<|nW (.sl 17 ((rob.take rob.length).map enL) true) rfl (wU (uX enL rob rob.length)) (by refine⟨?_,?_,?_,?_⟩;all_goals (first|exact aG _|decide|(apply EJ.2;exact omT)|(show (_:Int)=(_:Int);congr 1;omega)|rfl))<|oR 1 rfl<|rV (.sl 17 ([[vI no,vU f.pc,vI 0,vI 0,vI 0,vI 0,zU,vU f.guess,vI 3,vI 0,zU,zU,zU,vI 2,vI 0,vB false,vB false]]) true) rfl<|rFx (x:=.osl 48 0 (rob.length+1) false) (h':=upd _ 48 (some (.arr (((rob.take rob.length)++([(⟨no,f.pc,⟨0,0,0,0,0⟩,f.guess,3,0,0,0,0,2,0,false,false⟩:Ent)])).map enL) 17))) rfl rfl (zL enL (rob.take rob.length) ([(⟨no,f.pc,⟨0,0,0,0,0⟩,f.guess,3,0,0,0,0,2,0,false,false⟩:Ent)]) omT) (⟨by exact omT,by exact omT,trivial,trivial⟩)<|oR 1 rfl<|rE 50<|cO ?_;have e:(⟨no,f.pc,⟨0,0,0,0,0⟩,f.guess,3,0,0,0,0,2,0,false,false⟩:Ent)=qI no f prog:=by unfold qI;rw[if_neg (rI h1),if_pos (by have q:=CA (fetchW prog f.pc);omega)];rfl
   refine fG rfl (by show 0+(rob.length+1)≤(((rob.take rob.length)++([(⟨no,f.pc,⟨0,0,0,0,0⟩,f.guess,3,0,0,0,0,2,0,false,false⟩:Ent)])).map enL).length;exact omT) rfl ?_;show AV.sl 17 (List.take (rob.length+1) (List.drop 0 (((rob.take rob.length)++([(⟨no,f.pc,⟨0,0,0,0,0⟩,f.guess,3,0,0,0,0,2,0,false,false⟩:Ent)])).map enL))) false=_;rw[kG enL ((rob.take rob.length)++([(⟨no,f.pc,⟨0,0,0,0,0⟩,f.guess,3,0,0,0,0,2,0,false,false⟩:Ent)])) omT];rw[e,cS]
  ·have h3p:=vJ h3;refine cSR<|oR 2 rfl<|rSt rfl<|rE 36<|cSR<|oR 2 rfl<|rE 38<|bK<|cSR<|rV (vB (((lN (fetchW prog f.pc)).op)==47)) rfl<|oR 1 rfl<|rE 40<|aW rfl (λ h5=>?_) (λ h5=>?_)
   ·have h5p:=mU h5;refine cRg<|oR 1 rfl<|rSt rfl<|rE 42<|bW<|cSR<|oR 2 rfl<|rV (vB (6 != 0)) rfl<|rE 45<|aW rfl (λ _=>?_) (λ h6=>by exact absurd h6 (by decide));refine cRg<|oR 1 rfl<|rSt rfl<|rE 47<|cSR<|oR 2 rfl<|rW (vN rob.length) rfl (bY enL rob)<|oR 1 rfl<|rW (vN rob.length) rfl (bY enL rob)<|nW (.sl 17 ((rob.take rob.length).map enL) true) rfl (wU (uX enL rob rob.length)) (by refine⟨?_,?_,?_,?_⟩;all_goals (first|exact aG _|decide|(apply EJ.2;exact omT)|(show (_:Int)=(_:Int);congr 1;omega)|rfl))<|oR 1 rfl<|rV (.sl 17 ([[vI no,vU f.pc,vI ((lN (fetchW prog f.pc)).op),vI ((lN (fetchW prog f.pc)).rd),vI ((lN (fetchW prog f.pc)).rs1),vI ((lN (fetchW prog f.pc)).rs2),vU ((lN (fetchW prog f.pc)).imm),vU f.guess,vI 3,vI 0,zU,zU,zU,vI 6,vI 0,vB false,vB false]]) true) rfl<|rFx (x:=.osl 55 0 (rob.length+1) false) (h':=upd _ 55 (some (.arr (((rob.take rob.length)++([(⟨no,f.pc,lN (fetchW prog f.pc),f.guess,3,0,0,0,0,6,0,false,false⟩:Ent)])).map enL) 17))) rfl rfl (zL enL (rob.take rob.length) ([(⟨no,f.pc,lN (fetchW prog f.pc),f.guess,3,0,0,0,0,6,0,false,false⟩:Ent)]) omT) (⟨by exact omT,by exact omT,trivial,trivial⟩)<|oR 1 rfl<|rE 57<|cO ?_;have e:(⟨no,f.pc,lN (fetchW prog f.pc),f.guess,3,0,0,0,0,6,0,false,false⟩:Ent)=qI no f prog:=by unfold qI;rw[if_neg (rI h1),if_neg ((CA _).1 h3p),if_pos h5p];rfl
    refine fG rfl (by show 0+(rob.length+1)≤(((rob.take rob.length)++([(⟨no,f.pc,lN (fetchW prog f.pc),f.guess,3,0,0,0,0,6,0,false,false⟩:Ent)])).map enL).length;exact omT) rfl ?_;show AV.sl 17 (List.take (rob.length+1) (List.drop 0 (((rob.take rob.length)++([(⟨no,f.pc,lN (fetchW prog f.pc),f.guess,3,0,0,0,0,6,0,false,false⟩:Ent)])).map enL))) false=_;rw[kG enL ((rob.take rob.length)++([(⟨no,f.pc,lN (fetchW prog f.pc),f.guess,3,0,0,0,0,6,0,false,false⟩:Ent)])) omT];rw[e,cS]
   ·have h5p:=mV h5;refine cSR<|rV (vB (((lN (fetchW prog f.pc)).op)==48)) rfl<|oR 1 rfl<|rE 42<|aW rfl (λ h7=>?_) (λ h7=>?_)
    ·have h7p:=mU h7;refine cRg<|oR 1 rfl<|rSt rfl<|rE 44<|bW<|cSR<|oR 2 rfl<|rV (vB (7 != 0)) rfl<|rE 47<|aW rfl (λ _=>?_) (λ h8=>by exact absurd h8 (by decide));refine cRg<|oR 1 rfl<|rSt rfl<|rE 49<|cSR<|oR 2 rfl<|rW (vN rob.length) rfl (bY enL rob)<|oR 1 rfl<|rW (vN rob.length) rfl (bY enL rob)<|nW (.sl 17 ((rob.take rob.length).map enL) true) rfl (wU (uX enL rob rob.length)) (by refine⟨?_,?_,?_,?_⟩;all_goals (first|exact aG _|decide|(apply EJ.2;exact omT)|(show (_:Int)=(_:Int);congr 1;omega)|rfl))<|oR 1 rfl<|rV (.sl 17 ([[vI no,vU f.pc,vI ((lN (fetchW prog f.pc)).op),vI ((lN (fetchW prog f.pc)).rd),vI ((lN (fetchW prog f.pc)).rs1),vI ((lN (fetchW prog f.pc)).rs2),vU ((lN (fetchW prog f.pc)).imm),vU f.guess,vI 3,vI 0,zU,zU,zU,vI 7,vI 0,vB false,vB false]]) true) rfl<|rFx (x:=.osl 57 0 (rob.length+1) false) (h':=upd _ 57 (some (.arr (((rob.take rob.length)++([(⟨no,f.pc,lN (fetchW prog f.pc),f.guess,3,0,0,0,0,7,0,false,false⟩:Ent)])).map enL) 17))) rfl rfl (zL enL (rob.take rob.length) ([(⟨no,f.pc,lN (fetchW prog f.pc),f.guess,3,0,0,0,0,7,0,false,false⟩:Ent)]) omT) (⟨by exact omT,by exact omT,trivial,trivial⟩)<|oR 1 rfl<|rE 59<|cO ?_;have e:(⟨no,f.pc,lN (fetchW prog f.pc),f.guess,3,0,0,0,0,7,0,false,false⟩:Ent)=qI no f prog:=by unfold qI;rw[if_neg (rI h1),if_neg ((CA _).1 h3p),if_neg h5p,if_pos h7p];rfl
     refine fG rfl (by show 0+(rob.length+1)≤(((rob.take rob.length)++([(⟨no,f.pc,lN (fetchW prog f.pc),f.guess,3,0,0,0,0,7,0,false,false⟩:Ent)])).map enL).length;exact omT) rfl ?_;show AV.sl 17 (List.take (rob.length+1) (List.drop 0 (((rob.take rob.length)++([(⟨no,f.pc,lN (fetchW prog f.pc),f.guess,3,0,0,0,0,7,0,false,false⟩:Ent)])).map enL))) false=_;rw[kG enL ((rob.take rob.length)++([(⟨no,f.pc,lN (fetchW prog f.pc),f.guess,3,0,0,0,0,7,0,false,false⟩:Ent)])) omT];rw[e,cS]
    ·have h7p:=mV h7;refine bB<|bW<|cSR<|oR 2 rfl<|rV (vB (0 != 0)) rfl<|rE 45<|aW rfl (λ h9=>by exact absurd h9 (by decide)) (λ _=>?_);refine bB<|cSR<|oR 2 rfl<|rW (vN rob.length) rfl (bY enL rob)<|oR 1 rfl<|rW (vN rob.length) rfl (bY enL rob)<|nW (.sl 17 ((rob.take rob.length).map enL) true) rfl (wU (uX enL rob rob.length)) (by refine⟨?_,?_,?_,?_⟩;all_goals (first|exact aG _|decide|(apply EJ.2;exact omT)|(show (_:Int)=(_:Int);congr 1;omega)|rfl))<|oR 1 rfl<|rV (.sl 17 ([[vI no,vU f.pc,vI ((lN (fetchW prog f.pc)).op),vI ((lN (fetchW prog f.pc)).rd),vI ((lN (fetchW prog f.pc)).rs1),vI ((lN (fetchW prog f.pc)).rs2),vU ((lN (fetchW prog f.pc)).imm),vU f.guess,vI 0,vI 0,zU,zU,zU,vI 0,vI 0,vB false,vB false]]) true) rfl<|rFx (x:=.osl 53 0 (rob.length+1) false) (h':=upd _ 53 (some (.arr (((rob.take rob.length)++([(⟨no,f.pc,lN (fetchW prog f.pc),f.guess,0,0,0,0,0,0,0,false,false⟩:Ent)])).map enL) 17))) rfl rfl (zL enL (rob.take rob.length) ([(⟨no,f.pc,lN (fetchW prog f.pc),f.guess,0,0,0,0,0,0,0,false,false⟩:Ent)]) omT) (⟨by exact omT,by exact omT,trivial,trivial⟩)<|oR 1 rfl<|rE 55<|cO ?_;have e:(⟨no,f.pc,lN (fetchW prog f.pc),f.guess,0,0,0,0,0,0,0,false,false⟩:Ent)=qI no f prog:=by unfold qI;rw[if_neg (rI h1),if_neg ((CA _).1 h3p),if_neg h5p,if_neg h7p];rfl
     refine fG rfl (by show 0+(rob.length+1)≤(((rob.take rob.length)++([(⟨no,f.pc,lN (fetchW prog f.pc),f.guess,0,0,0,0,0,0,0,false,false⟩:Ent)])).map enL).length;exact omT) rfl ?_;show AV.sl 17 (List.take (rob.length+1) (List.drop 0 (((rob.take rob.length)++([(⟨no,f.pc,lN (fetchW prog f.pc),f.guess,0,0,0,0,0,0,0,false,false⟩:Ent)])).map enL))) false=_;rw[kG enL ((rob.take rob.length)++([(⟨no,f.pc,lN (fetchW prog f.pc),f.guess,0,0,0,0,0,0,0,false,false⟩:Ent)])) omT];rw[e,cS]
theorem Vn(c:Co)(nb:Nat)(hm:c.okM nb)(kS:Bool)(xS:List (List AV))(kT:Bool)(xT:List (List AV)):pV C0.P C0.G 56 [.ptr 0 0] (heapF [(0,.box (mcX c (.sl 17 (c.rob.map enL) false) (.sl 2 (c.fetched.map ftL) true) (.sl 2 xS kS) (.sl 9 xT kT)))]) 1 (λ x h'=>x=.tup []∧h'=heapF [(0,.box (mcX (gW c) (.sl 17 ((gW c).rob.map enL) false) (.sl 2 ((gW c).fetched.map ftL) true) (.sl 2 xS kS) (.sl 9 xT kT)))]):=by
 refine HCall.intro (C:=C1) (s:=1) c1Ok.at Tryz.func56 rfl rfl (by kernel_rfl) rfl rfl ?_;obtain⟨W,hW,hW2⟩:∃ W:Nat,c.conf.width=(W:Int)∧W≤2:=⟨c.conf.width.toNat,by have:=mT hm.cf;omega,by have:=mT hm.cf;omega⟩;refine bW<|cSR<|oR 5 rfl<|rV (vB (c.halt != 0)) rfl<|rE 7 ?_;refine aW rfl (λ h1=>?_) (λ h1=>?_)
 ·have h1p:=vH h1;refine cO ?_;have e:gW c=c:=if_pos h1p;rw[e];exact pG (rs:=[]) rfl (σ:=λ z=>z) ⟨rfl,rfl⟩ rfl (cE (λ z=>z) rfl rfl wH rfl)
 ·have h1p:=vJ h1;refine bB<|cSR<|oR 7 rfl<|rE 14<|bK<|rY (κ:=Nat×Co×Bool) (λ z_=>match z_ with|(k,d,false)=>⟨slotsF [(0,.ptr 0 0),(7,vB (c.halt != 0)),(13,vI c.conf.width),(14,vN k)],heapF [(0,.box (mcX d (.sl 17 (d.rob.map enL) false) (.sl 2 (d.fetched.map ftL) true) (.sl 2 xS kS) (.sl 9 xT kT)))],14⟩|(k,d,true)=>⟨slotsF [(0,.ptr 0 0),(7,vB (c.halt != 0)),(13,vI c.conf.width),(14,vN k)],heapF [(0,.box (mcX d (.sl 17 (d.rob.map enL) false) (.sl 2 (d.fetched.map ftL) true) (.sl 2 xS kS) (.sl 9 xT kT)))],14⟩) (λ z_=>match z_ with|(k,d,_)=>k≤W∧d.okM nb∧iT (W - k) d=iT W c) (λ z_=>W - z_.1) (0,c,false) (λ s=>s) (Weak.of_lists (λ s=>s) wT wH rfl) rfl (⟨aE _,hm,rfl⟩) ?_;intro z_ hk;obtain⟨k,d,b_⟩:=z_;cases b_
  ·have hkn:k≤W:=hk.1;have hkB:k≤2:=by omega
   have hd:d.okM nb:=hk.2.1;have hG:iT (W - k) d=iT W c:=hk.2.2;refine cSR<|rV (vB (decide ((k:Int)<c.conf.width))) rfl<|rE 15<|bW ?_;refine aW rfl (λ h2=>?_) (λ h2=>?_)
   ·have h2p:=of_decide_eq_true h2;refine bB<|bW<|bK<|bW<|cSR<|oR 5 rfl<|rW (vN d.rob.length) rfl (bY enL d.rob)<|oR 6 rfl<|rV (vB (decide (((d.rob.length:Nat):Int)≥d.conf.rob))) rfl<|oR 1 rfl<|gN rfl<|gS rfl id<|gS rfl id<|gS rfl id<|gS rfl id ?_;refine gBS (x:=vN d.fetched.length) rfl id (bY ftL d.fetched)<|gBS (x:=vB (d.fetched.length==0)) rfl id (okB (eqN _ _))<|cV rfl rfl rfl (by simp)<|rE 37 ?_;refine aW rfl (λ h3=>?_) (λ h3=>?_)
    ·have hst:((d.rob.length:Int)≥d.conf.rob∨d.fetched.length=0):=by have z:=h3;simpa [c2o]using z
     refine cO ?_;have e0:gW c=iT W c:=by show (if c.halt≠0 then c else iT c.conf.width.toNat c)=_;rw[if_neg (λ q=>q h1p),hW];rfl
     have e:gW c=d:=by rw[e0, ←hG];exact qT hst
     rw[e];exact pG (rs:=[]) rfl (σ:=λ z=>z) ⟨rfl,rfl⟩ rfl (cE (λ z=>z) rfl rfl wH rfl)
    ·have hst: ¬ ((d.rob.length:Int)≥d.conf.rob∨d.fetched.length=0):=by have z:=h3;simpa [c2o]using z
     have hrl:d.rob.length≤7:=by have:=mT hd.cf;omega
     have hfl:0<d.fetched.length:=by omega
     refine bB<|cSR<|oR 16 rfl ?_;obtain⟨f,hf⟩:∃ y_,d.fetched[0]?=some y_:=⟨_,aA omT⟩;have hfo:=hd.ok.feto f (aB hf);refine Ih (ftL f) (x:=.dp 2 0 (ftL f)) rfl rfl rfl (⟨by decide,iB hf⟩) rfl<|oR 6 rfl<|rCi rfl (Uc d.rob false d.next f d.prog hd.rob hd.ok.robo hfo hd.ok.progo (by have:=hd.prog;omega))<|oR 3 rfl<|rSt rfl<|rE 65<|cSR<|oR 5 rfl<|rW (vI (wrap64 (d.next+1))) rfl (okI (w64 _))<|oR 3 rfl<|rSt rfl<|rE 75<|cRg<|oR 6 rfl ?_;refine nW (.sl 2 ((d.fetched.drop 1).map ftL) true) rfl (wU (Jk ftL d.fetched 1)) slT ?_;refine oR 3 rfl<|rSx 0 (mcX ({d with next:=wrap64 (d.next+1)}:Co) (.sl 17 ((d.rob++[qI d.next f d.prog]).map enL) false) (.sl 2 ((d.fetched.drop 1).map ftL) true) (.sl 2 xS kS) (.sl 9 xT kT)) rfl rfl rfl<|rE 86<|cRg ?_;have b1:k+1≤3:=aH hkB (aC 1);refine rW (vN (k+1)) rfl (okI (bV b1 rfl))<|oR 1 rfl<|rE 88 ?_;refine .mk _ (.refl _) ⟨(k+1,FI d f,false),λ i=>i,Weak.of_lists _ wT wH rfl,rfl,⟨by omega,Ce hd hfo omT,(uG omT (λ q=>hst (.inl q)) hf).trans hG⟩,by show W - (k+1)<W - k;omega⟩
   ·have h2p:=aD h2;refine eE ?_;have e0:gW c=iT W c:=by show (if c.halt≠0 then c else iT c.conf.width.toNat c)=_;rw[if_neg (λ q=>q h1p),hW];rfl
    have e:gW c=d:=by rw[e0, ←hG];rw[show W - k=0 by omega];rfl
    rw[e];exact pG (rs:=[]) rfl (σ:=λ z=>z) ⟨rfl,rfl⟩ rfl (cE (λ z=>z) rfl rfl wH rfl)
  ·have hkn:k≤W:=hk.1;have hkB:k≤2:=by omega
   have hd:d.okM nb:=hk.2.1;have hG:iT (W - k) d=iT W c:=hk.2.2;refine cSR<|rV (vB (decide ((k:Int)<c.conf.width))) rfl<|rE 15<|bW ?_;refine aW rfl (λ h4=>?_) (λ h4=>?_)
   ·have h4p:=of_decide_eq_true h4;refine bB<|bW<|bK<|bW<|cSR<|oR 5 rfl<|rW (vN d.rob.length) rfl (bY enL d.rob)<|oR 6 rfl<|rV (vB (decide (((d.rob.length:Nat):Int)≥d.conf.rob))) rfl<|oR 1 rfl<|gN rfl<|gS rfl id<|gS rfl id<|gS rfl id<|gS rfl id ?_;refine gBS (x:=vN d.fetched.length) rfl id (bY ftL d.fetched)<|gBS (x:=vB (d.fetched.length==0)) rfl id (okB (eqN _ _))<|cV rfl rfl rfl (by simp)<|rE 37 ?_;refine aW rfl (λ h5=>?_) (λ h5=>?_)
    ·have hst:((d.rob.length:Int)≥d.conf.rob∨d.fetched.length=0):=by have z:=h5;simpa [c2o]using z
     refine cO ?_;have e0:gW c=iT W c:=by show (if c.halt≠0 then c else iT c.conf.width.toNat c)=_;rw[if_neg (λ q=>q h1p),hW];rfl
     have e:gW c=d:=by rw[e0, ←hG];exact qT hst
     rw[e];exact pG (rs:=[]) rfl (σ:=λ z=>z) ⟨rfl,rfl⟩ rfl (cE (λ z=>z) rfl rfl wH rfl)
    ·have hst: ¬ ((d.rob.length:Int)≥d.conf.rob∨d.fetched.length=0):=by have z:=h5;simpa [c2o]using z
     have hrl:d.rob.length≤7:=by have:=mT hd.cf;omega
     have hfl:0<d.fetched.length:=by omega
     refine bB<|cSR<|oR 16 rfl ?_;obtain⟨f,hf⟩:∃ y_,d.fetched[0]?=some y_:=⟨_,aA omT⟩;have hfo:=hd.ok.feto f (aB hf);refine Ih (ftL f) (x:=.dp 2 0 (ftL f)) rfl rfl rfl (⟨by decide,iB hf⟩) rfl<|oR 6 rfl<|rCi rfl (Uc d.rob false d.next f d.prog hd.rob hd.ok.robo hfo hd.ok.progo (by have:=hd.prog;omega))<|oR 3 rfl<|rSt rfl<|rE 65<|cSR<|oR 5 rfl<|rW (vI (wrap64 (d.next+1))) rfl (okI (w64 _))<|oR 3 rfl<|rSt rfl<|rE 75<|cRg<|oR 6 rfl ?_;refine nW (.sl 2 ((d.fetched.drop 1).map ftL) true) rfl (wU (Jk ftL d.fetched 1)) slT ?_;refine oR 3 rfl<|rSx 0 (mcX ({d with next:=wrap64 (d.next+1)}:Co) (.sl 17 ((d.rob++[qI d.next f d.prog]).map enL) false) (.sl 2 ((d.fetched.drop 1).map ftL) true) (.sl 2 xS kS) (.sl 9 xT kT)) rfl rfl rfl<|rE 86<|cRg ?_;have b2:k+1≤3:=aH hkB (aC 1);refine rW (vN (k+1)) rfl (okI (bV b2 rfl))<|oR 1 rfl<|rE 88 ?_;refine .mk _ (.refl _) ⟨(k+1,FI d f,false),λ i=>i,Weak.of_lists _ wT wH rfl,rfl,⟨by omega,Ce hd hfo omT,(uG omT (λ q=>hst (.inl q)) hf).trans hG⟩,by show W - (k+1)<W - k;omega⟩
   ·have h4p:=aD h4;refine eE ?_;have e0:gW c=iT W c:=by show (if c.halt≠0 then c else iT c.conf.width.toNat c)=_;rw[if_neg (λ q=>q h1p),hW];rfl
    have e:gW c=d:=by rw[e0, ←hG];rw[show W - k=0 by omega];rfl
    rw[e];exact pG (rs:=[]) rfl (σ:=λ z=>z) ⟨rfl,rfl⟩ rfl (cE (λ z=>z) rfl rfl wH rfl)
theorem xO(c:Co)(i:Nat)(e:Ent):(setE c i e).rob.length=c.rob.length:=bT ..
theorem Ub{e:Ent}(h:e.ok):({e with is:=2}:Ent).ok:=⟨h.pc,h.imm,h.guess,h.value,h.next,h.addr⟩
theorem Vm{c:Co}{n i:Nat}{e:Ent}(h:c.okM n)(he:c.rob[i]?=some e):e.ok:=h.ok.robo e (aB he)
theorem MY{c:Co}{n:Nat}(h:c.okM n)(hb:n+1≤890000)(i:Nat):(jT c i).okM (n+1)∧(jT c i).rob.length=c.rob.length∧(jT c i).halt=c.halt∧(jT c i).stores=c.stores∧(jT c i).fetched=c.fetched∧(jT c i).retired=c.retired:=by
 have h1:c.okM (n+1):=h.mono (fJ _) hb;unfold jT
 cases hx:c.rob[i]? with
 |none=>exact⟨h1,rfl,rfl,rfl,rfl,rfl⟩
 |some e=>
  have he:=Vm h hx;dsimp only
  repeat' split
  ·exact⟨h1,rfl,rfl,rfl,rfl,rfl⟩
  ·exact⟨vW h1 i (Hg he _),xO ..,rfl,rfl,rfl,rfl⟩
  ·exact⟨h1,rfl,rfl,rfl,rfl,rfl⟩
  ·exact⟨vW h1 i (Hg he _),xO ..,rfl,rfl,rfl,rfl⟩
  ·exact⟨vW h1 i (Ub he),xO ..,rfl,rfl,rfl,rfl⟩
  ·exact⟨vW (rH h hb 1 (dR he.addr) oC) i (Ub he),xO ..,rfl,rfl,rfl,rfl⟩
  ·exact⟨h1,rfl,rfl,rfl,rfl,rfl⟩
theorem uU{c:Co}{n:Nat}(h:c.okM n)(hb:n+1≤890000)(i:Nat):(eP c i).okM (n+1)∧(eP c i).rob.length=c.rob.length∧(eP c i).halt=c.halt∧(eP c i).stores=c.stores∧(eP c i).fetched=c.fetched∧(eP c i).retired=c.retired:=by
 have h1:c.okM (n+1):=h.mono (fJ _) hb;unfold eP
 cases hx:c.rob[i]? with
 |none=>exact⟨h1,rfl,rfl,rfl,rfl,rfl⟩
 | some e=>
  have he:=Vm h hx;have hB:=Ae h.ok.robo h.ok.r i;dsimp only;split
  ·exact⟨vW h1 i (Hf he _ _),xO ..,rfl,rfl,rfl,rfl⟩
  ·split
   ·have hl:=MY (vW h i (Hf he c.mem.size (lL c.rob c.r i).1)) hb i;exact⟨hl.1,hl.2.1.trans (xO ..),hl.2.2.1,hl.2.2.2.1,hl.2.2.2.2.1,hl.2.2.2.2.2⟩
   ·exact⟨vW h1 i (Pe he hB.1 hB.2),xO ..,rfl,rfl,rfl,rfl⟩
theorem OT{width:Int}{busy:Bool}{kinds:List Int}{can:List Bool}:∀ k,∀ i∈(iC width busy kinds can k).out,i<k
 |0,i,h=>by simp[iC]at h
 | k+1,i,h=>by
  have ih:=OT (width:=width) (busy:=busy) (kinds:=kinds) (can:=can) k;unfold iC CW at h
  repeat' split at h
  all_goals first
   |exact mQ (ih i h)
   |(simp only[al_List_mem_append,tO]at h;exact h.elim (λ h=>mQ (ih i h)) (λ h=>by omega))
theorem OU{width:Int}{busy:Bool}{kinds:List Int}{can:List Bool}(hw:0≤width):∀ k,((iC width busy kinds can k).out.length:Int)≤width
 |0=>by simpa [iC]using hw
 | k+1=>by
  have ih:=OU (width:=width) (busy:=busy) (kinds:=kinds) (can:=can) hw k;unfold iC CW
  repeat' split
  all_goals first
   |exact ih
   |(simp only[aV,kA];push_cast;omega)
theorem LG{α:Type}{f:α→Bool}{l:List α}{k:Nat}{x:α}(h:l[k]?=some x):(l.take (k+1)).any f=((l.take k).any f||f x):=by
 rw[bR,h,List.any_append];simp
def qS(c:Co)(k:Nat):List Int:=(c.rob.take k).map (λ e=>(kindOf e.i.op:Int))++List.replicate (c.rob.length - k) 0
def wD(c:Co)(k:Nat):List Bool:=(List.range k).map (BE c)++List.replicate (c.rob.length - k) false
theorem FF{c:Co}{k:Nat}(h:k≤c.rob.length):(qS c k).length=c.rob.length:=by unfold qS;simp;omega
theorem DV{c:Co}{k:Nat}(h:k≤c.rob.length):(wD c k).length=c.rob.length:=by unfold wD;simp;omega
theorem LH{α:Type}{a:List α}{z x:α}{n k:Nat}(ha:a.length=k)(hn:0<n):(a++List.replicate n z).set k x=(a++[x])++List.replicate (n - 1) z:=by
 subst ha;obtain⟨m,rfl⟩:∃ m,n=m+1:=⟨n - 1,by omega⟩;rw[iK _ _ (aC _),fF,List.replicate_succ,gI];simp
theorem FG{c:Co}{k:Nat}{x:Ent}(hx:c.rob[k]?=some x):(qS c k).set k (kindOf x.i.op:Int)=qS c (k+1):=by
 have hk:=(Dq.1 hx).1;unfold qS;rw[LH (by simp;omega) omT,bR,hx,Nat.sub_sub];simp
theorem Jb{c:Co}{k:Nat}(hk:k<c.rob.length):(wD c k).set k (BE c k)=wD c (k+1):=by
 unfold wD;rw[LH (by simp) omT,jZ,Nat.sub_sub];simp
theorem MZ(c:Co):qS c c.rob.length=zP c:=by unfold qS zP;simp
theorem OV(c:Co):wD c c.rob.length=yK c:=by unfold wD yK;simp
theorem KB{c:Co}{n:Nat}(h:c.rob.length=n):List.replicate n (0:Int)=qS c 0:=by subst h;rfl
theorem Na{c:Co}{n:Nat}(h:c.rob.length=n):List.replicate n false=wD c 0:=by subst h;rfl
theorem FH{α β:Type}{f:β→α→β}{l:List α}{j:Nat}{x:α}{d:β}(h:l[j]?=some x):(l.drop (j+1)).foldl f (f d x)=(l.drop j).foldl f d:=by
 obtain⟨hj,rfl⟩:=Dq.1 h;rw[cQ hj];rfl
theorem zH{c:Co}{k:Nat}(hm:sW c.conf=true)(hh: ¬ c.halt≠0)(hk:k=c.rob.length):∃ p,pickOf c.conf.width ((c.rob.take k).any CT) (qS c k) (wD c k)=p∧eQ c=p.foldl eP c∧(∀ i∈p,i<c.rob.length)∧p.length≤2:=by
 subst hk;have hw:=mT hm;refine⟨_,rfl,?_,λ i hi=>?_,?_⟩
 ·rw[MZ,OV,cS];exact if_neg hh
 ·have:=OT _ i hi
  rwa [DV (aC _)]at this
 ·have:=OU (width:=c.conf.width) (busy:=(c.rob.take c.rob.length).any CT) (kinds:=qS c c.rob.length) (can:=wD c c.rob.length) omT (wD c c.rob.length).length;unfold pickOf;omega
theorem Vl(c:Co)(nb:Nat)(hm:c.okM nb)(hb:nb+3≤890000)(A B:List Ent)(lo n:Nat)(kR kF kS kT:Bool)(xF xT:List (List AV))(hlo:A.length=lo)(hn:c.rob.length=n)(hA:A.length+n+B.length≤1000):pV C0.P C0.G 55 [.ptr 0 0] (heapF [(0,.box (mcX c (.osl 1 lo n kR) (.sl 2 xF kF) (.sl 2 (c.stores.map ptL) kS) (.sl 9 xT kT))),(1,.arr ((A++c.rob++B).map enL) 17)]) 2 (λ x h'=>x=.tup []∧h'=heapF [(0,.box (mcX (eQ c) (.osl 1 lo n kR) (.sl 2 xF kF) (.sl 2 ((eQ c).stores.map ptL) kS) (.sl 9 xT kT))),(1,.arr ((A++(eQ c).rob++B).map enL) 17)]):=by
 refine HCall.intro (C:=C1) (s:=2) c1Ok.at Tryz.func55 rfl rfl (by kernel_rfl) rfl rfl<|bW<|cSR<|oR 5 rfl<|rV (vB (c.halt != 0)) rfl<|rE 8<|aW rfl (λ h1=>?_) (λ h1=>?_)
 ·have h1p:=vH h1;refine cO ?_;have e:eQ c=c:=if_pos h1p;rw[e];exact pG (rs:=[]) rfl (σ:=λ z=>z) ⟨rfl,rfl⟩ rfl (cE (λ z=>z) rfl rfl wH rfl)
 ·have h1p:=vJ h1;refine bB<|cSR<|oR 1 rfl<|rE 9<|cSR<|oR 5 rfl<|rV (vN n) rfl<|rFx (x:=.osl 15 0 n false) (h':=upd _ 15 (some (.arr ((List.replicate n 0).map iL) 1))) rfl rfl (PF (fP (f:=iL) (a:=0)).symm) (⟨aG _,EJ.2 omT,by show (n:Int)≤1000000;omega⟩)<|oR 1 rfl<|rE 17<|cSR<|oR 5 rfl<|rV (vN n) rfl<|rFx (x:=.osl 23 0 n false) (h':=upd _ 23 (some (.arr ((List.replicate n false).map yN) 1))) rfl rfl (PF (fP (f:=yN) (a:=false)).symm) (⟨aG _,EJ.2 omT,by show (n:Int)≤1000000;omega⟩)<|oR 1 rfl<|rE 25<|ER<|cSR<|oR 5 rfl<|rV (vN n) rfl<|oR 1 rfl<|rE 32<|bK<|rY (κ:=Nat) (λ k=>⟨slotsF [(0,.ptr 0 0),(14,vB (c.halt != 0)),(3,.osl 15 0 n false),(4,.osl 23 0 n false),(33,.osl 1 lo n kR),(34,vN n),(2,vB ((c.rob.take k).any CT)),(35,vN k)],heapF [(0,.box (mcX c (.osl 1 lo n kR) (.sl 2 xF kF) (.sl 2 (c.stores.map ptL) kS) (.sl 9 xT kT))),(1,.arr ((A++c.rob++B).map enL) 17),(15,.arr ((qS c k).map iL) 1),(23,.arr ((wD c k).map yN) 1)],32⟩) (λ k=>k≤n) (λ k=>n - k) 0 (λ s=>s) (Weak.of_lists (λ s=>s) wT ⟨⟨rfl,rfl,rfl⟩,⟨rfl,rfl,rfl⟩,⟨rfl,(congrArg (λ z:List Int=>some (Blk.arr (z.map iL) 1)) (KB hn)),rfl⟩,⟨rfl,(congrArg (λ z:List Bool=>some (Blk.arr (z.map yN) 1)) (Na hn)),rfl⟩,trivial⟩ rfl) rfl (aE _) ?_;intro k hk;have hkn:k≤n:=hk;have hkB:k≤1000:=by have:=hm.rob;omega
  have hkl1:(qS c k).length=n:=(FF omT).trans hn;have hkl2:(wD c k).length=n:=(DV omT).trans hn;refine cSR<|rW (vB (decide (k<n))) rfl (okB (ltN _ _))<|rE 33<|bW<|aW rfl (λ h2=>?_) (λ h2=>?_)
  ·have h2p:=of_decide_eq_true h2;refine bB<|bW<|bK<|cSR<|oR 1 rfl<|nW (.ptr2 1 (lo+k) 0) rfl rfl ixT ?_;obtain⟨x,hx⟩:∃ y_,c.rob[k]?=some y_:=⟨_,aA omT⟩;have hxo:=hm.ok.robo x (aB hx);refine rIx (enL x) (.agg (enL x)) rfl rfl (iB (jK hlo hx)) rfl<|rAl 36 rfl rfl<|oR 1 rfl<|rSt rfl<|rE 39<|cSR<|oR 4 rfl<|rCi rfl (qN x.i)<|nW (.ptr2 15 (0+k) 0) rfl rfl ixT ?_;obtain⟨x1,hx1⟩:∃ y_,(qS c k)[k]?=some y_:=⟨_,aA omT⟩;have hx2:((qS c k).set k (kindOf x.i.op:Int))[k]?=some (kindOf x.i.op:Int):=aQ omT;refine nI (iL x1) (h':=upd _ 15 (some (.arr (((qS c k).set k (kindOf x.i.op:Int)).map iL) 1))) rfl rfl rfl (⟨aG _,Ii (iB hx1)⟩) (uW (f:=iL) (l:=qS c k) (k:=k) (x:=(kindOf x.i.op:Int)))<|rE 46<|cSR<|oR 4 rfl<|fW _ rfl rfl rfl (pV.of_dcall (C:=C0) (show bX C0 109 [.dp 64 0 (mcX c (.sl 17 (List.take n (List.drop lo ((A++c.rob++B).map enL))) kR) (.sl 2 xF kF) (.sl 2 (c.stores.map ptL) kS) (.sl 9 xT kT)),vN k] _ from by rw[tB (l:=c.rob) hlo (by first|exact hn|(rw[bT];exact hn)|(simp only[bT];exact hn))];exact Xz c nb hm (.sl 2 xF kF) (.sl 2 (c.stores.map ptL) kS) (.sl 9 xT kT) kR k omT) (by rfl) (by exact⟨⟨rfl,(r4 (r4 (r4 (r4 (r4 (r4 (r4 (r4 (r4 (r4 (r4 (r4 ⟨(by show lo+n≤((A++c.rob++B).map enL).length;simp only[aF,aV,bT];omega),tvT⟩))))))))))))⟩,trivial,trivial⟩) (by rfl)) ?_;rintro _ _ ⟨rfl,rfl⟩;refine nW (.ptr2 23 (0+k) 0) rfl rfl ixT ?_;obtain⟨x3,hx3⟩:∃ y_,(wD c k)[k]?=some y_:=⟨_,aA omT⟩;have hx4:((wD c k).set k (BE c k))[k]?=some (BE c k):=aQ omT;refine nI (yN x3) (h':=upd _ 23 (some (.arr (((wD c k).set k (BE c k)).map yN) 1))) rfl rfl rfl (⟨aG _,Ii (iB hx3)⟩) (uW (f:=yN) (l:=wD c k) (k:=k) (x:=BE c k))<|rE 53<|cSR<|oR 2 rfl<|nW (.ptr2 15 (0+k) 0) rfl rfl ixT<|rIx (iL (kindOf x.i.op:Int)) (vN (kindOf x.i.op)) rfl rfl (Ii (iB hx2)) rfl<|rW (vB ((kindOf x.i.op)==2)) rfl (okB (eqN _ _))<|oR 1 rfl<|gN rfl<|gS rfl id<|gBS (x:=vB (x.is==1)) rfl id rfl<|cV rfl rfl rfl (λ h=>h)<|rE 63<|aW rfl (λ h3=>?_) (λ h3=>?_)
   ·refine cRg<|oR 1 rfl<|rE 64<|cRg ?_;have b1:k+1≤1001:=aH hkB (aC 1);refine rW (vN (k+1)) rfl (okI (bV b1 rfl))<|oR 1 rfl<|rE 66<|.mk _ (.refl _) ⟨k+1,λ s=>s,Weak.of_lists _ ⟨⟨rfl,rfl⟩,⟨rfl,rfl⟩,⟨rfl,rfl⟩,⟨rfl,rfl⟩,⟨rfl,rfl⟩,⟨rfl,rfl⟩,⟨(dL (by rw[LG hx];have z:=h3;simp_all[c2a,CT])),rfl⟩,⟨rfl,rfl⟩,trivial⟩ ⟨⟨rfl,rfl,rfl⟩,⟨rfl,rfl,rfl⟩,⟨rfl,(congrArg (λ z:List Int=>some (Blk.arr (z.map iL) 1)) (FG hx)),rfl⟩,⟨rfl,(congrArg (λ z:List Bool=>some (Blk.arr (z.map yN) 1)) (Jb omT)),rfl⟩,trivial⟩ rfl,rfl,by omega,by show n - (k+1)<n - k;omega⟩
   ·refine bB<|cRg ?_;have b2:k+1≤1001:=aH hkB (aC 1);refine rW (vN (k+1)) rfl (okI (bV b2 rfl))<|oR 1 rfl<|rE 65<|.mk _ (.refl _) ⟨k+1,λ s=>s,Weak.of_lists _ ⟨⟨rfl,rfl⟩,⟨rfl,rfl⟩,⟨rfl,rfl⟩,⟨rfl,rfl⟩,⟨rfl,rfl⟩,⟨rfl,rfl⟩,⟨(dL (by rw[LG hx];have z:=h3;simp_all[c2a,CT])),rfl⟩,⟨rfl,rfl⟩,trivial⟩ ⟨⟨rfl,rfl,rfl⟩,⟨rfl,rfl,rfl⟩,⟨rfl,(congrArg (λ z:List Int=>some (Blk.arr (z.map iL) 1)) (FG hx)),rfl⟩,⟨rfl,(congrArg (λ z:List Bool=>some (Blk.arr (z.map yN) 1)) (Jb omT)),rfl⟩,trivial⟩ rfl,rfl,by omega,by show n - (k+1)<n - k;omega⟩
  ·have h2p:=aD h2;obtain⟨p,hp,hP,hpl,hp2⟩:=zH (k:=k) hm.cf (λ q=>q h1p) omT;refine eE<| .mk _ (.step (some (15,1,(qS c k).map iL)) (Ghost.of_lists (l:=[(0,.ptr 0 0),(14,vB (c.halt != 0)),(3,.sl 1 ((qS c k).map iL) false),(4,.osl 23 0 n false),(2,vB ((c.rob.take k).any CT)),(36,vB (decide (k<n)))]) (hp:=[(0,.box (mcX c (.osl 1 lo n kR) (.sl 2 xF kF) (.sl 2 (c.stores.map ptL) kS) (.sl 9 xT kT))),(1,.arr ((A++c.rob++B).map enL) 17),(23,.arr ((wD c k).map yN) 1)]) rfl rfT rbT) (.step (some (23,1,(wD c k).map yN)) (Ghost.of_lists (l:=[(0,.ptr 0 0),(14,vB (c.halt != 0)),(3,.sl 1 ((qS c k).map iL) false),(4,.sl 1 ((wD c k).map yN) false),(2,vB ((c.rob.take k).any CT)),(36,vB (decide (k<n)))]) (hp:=[(0,.box (mcX c (.osl 1 lo n kR) (.sl 2 xF kF) (.sl 2 (c.stores.map ptL) kS) (.sl 9 xT kT))),(1,.arr ((A++c.rob++B).map enL) 17)]) rfl rfT rbT) (.refl _)))<|cSR<|oR 9 rfl<|rCl (x:=.sl 1 (p.map Qs) false) rfl (.inl rfl) ((by rw[←hp];exact Yp c.conf.width ((c.rob.take k).any CT) (qS c k) (wD c k) false false (by rw[FF omT];exact hm.rob) (by rw[DV omT];exact hm.rob)))<|rW (vN p.length) rfl (bY Qs p)<|oR 1 rfl<|rE 45<|bK<|rY (κ:=Nat×Co×Bool) (λ z_=>match z_ with|(j,d,false)=>⟨slotsF [(0,.ptr 0 0),(14,vB (c.halt != 0)),(36,vB (decide (k<n))),(72,.sl 1 (p.map Qs) false),(73,vN p.length),(74,vN j)],heapF [(0,.box (mcX d (.osl 1 lo n kR) (.sl 2 xF kF) (.sl 2 (d.stores.map ptL) kS) (.sl 9 xT kT))),(1,.arr ((A++d.rob++B).map enL) 17)],45⟩|(j,d,true)=>⟨slotsF [(0,.ptr 0 0),(14,vB (c.halt != 0)),(36,vB (decide (k<n))),(72,.sl 1 (p.map Qs) false),(73,vN p.length),(74,vN j)],heapF [(0,.box (mcX d (.osl 1 lo n kR) (.sl 2 xF kF) (.sl 2 (d.stores.map ptL) kS) (.sl 9 xT kT))),(1,.arr ((A++d.rob++B).map enL) 17)],45⟩) (λ z_=>match z_ with|(j,d,_)=>j≤p.length∧d.okM (nb+j)∧d.rob.length=n∧(p.drop j).foldl eP d=eQ c) (λ z_=>p.length - z_.1) (0,c,false) (λ s=>s) (Weak.of_lists (λ s=>s) wT wH rfl) rfl (⟨aE _,hm,hn,hP.symm⟩) ?_;intro z_ hj;obtain⟨j,d,b_⟩:=z_;cases b_
   ·have hjn:j≤p.length:=hj.1;have hjB:j≤2:=by omega
    have hd:d.okM (nb+j):=hj.2.1;have hdn:d.rob.length=n:=hj.2.2.1;have hG:(p.drop j).foldl eP d=eQ c:=hj.2.2.2;refine cSR<|rW (vB (decide (j<p.length))) rfl (okB (ltN _ _))<|rE 46<|bW<|aW rfl (λ h4=>?_) (λ h4=>?_)
    ·have h4p:=of_decide_eq_true h4;refine bB<|bW<|bK<|cSR ?_;obtain⟨x,hx⟩:∃ y_,p[j]?=some y_:=⟨_,aA omT⟩;have hxo:=hpl x (aB hx);have hs:=uU hd omT x;refine rIx (Qs x) (.dp 1 0 (Qs x)) rfl rfl (iB hx) rfl<|oR 2 rfl<|rE 49<|cRg<|oR 2 rfl<|fW _ rfl rfl rfl ((Ud d (nb+j) hd x (by have:=hxo;omega) A B lo n kR kF kS kT xF xT hlo hdn hA).frameB2 (λ z=>z) _ _ rfl ⟨⟨rfl,rfl,rfl,rfl⟩,⟨rfl,rfl,rfl,rfl⟩,trivial⟩ rfl rfl rfl rfl rfl) ?_;rintro _ _ ⟨rfl,rfl⟩;refine rE 52<|cRg ?_;have b3:j+1≤3:=aH hjB (aC 1);refine rW (vN (j+1)) rfl (okI (bV b3 rfl))<|oR 1 rfl<|rE 54<|.mk _ (.refl _) ⟨(j+1,eP d x,false),λ i=>i,Weak.of_lists _ wT ⟨⟨rfl,(congrArg (λ z:List Pt=>some (Blk.box (mcX (eP d x) (.osl 1 lo n kR) (.sl 2 xF kF) (.sl 2 (z.map ptL) kS) (.sl 9 xT kT)))) hs.2.2.2.1.symm),rfl⟩,⟨rfl,rfl,rfl⟩,trivial⟩ rfl,rfl,⟨by omega,hs.1,hs.2.1.trans hdn,(FH hx).trans hG⟩,by show p.length - (j+1)<p.length - j;omega⟩
    ·have h4p:=aD h4;refine eE ?_;have e:eQ c=d:=by rw[←hG,cT omT];rfl
     rw[e];exact pG (rs:=[]) rfl (σ:=λ z=>z) ⟨rfl,rfl⟩ rfl (cE (λ z=>z) rfl rfl wH rfl)
   ·have hjn:j≤p.length:=hj.1;have hjB:j≤2:=by omega
    have hd:d.okM (nb+j):=hj.2.1;have hdn:d.rob.length=n:=hj.2.2.1;have hG:(p.drop j).foldl eP d=eQ c:=hj.2.2.2;refine cSR<|rW (vB (decide (j<p.length))) rfl (okB (ltN _ _))<|rE 46<|bW<|aW rfl (λ h5=>?_) (λ h5=>?_)
    ·have h5p:=of_decide_eq_true h5;refine bB<|bW<|bK<|cSR ?_;obtain⟨x,hx⟩:∃ y_,p[j]?=some y_:=⟨_,aA omT⟩;have hxo:=hpl x (aB hx);have hs:=uU hd omT x;refine rIx (Qs x) (.dp 1 0 (Qs x)) rfl rfl (iB hx) rfl<|oR 2 rfl<|rE 49<|cRg<|oR 2 rfl<|fW _ rfl rfl rfl ((Ud d (nb+j) hd x (by have:=hxo;omega) A B lo n kR kF kS kT xF xT hlo hdn hA).frameB2 (λ z=>z) _ _ rfl ⟨⟨rfl,rfl,rfl,rfl⟩,⟨rfl,rfl,rfl,rfl⟩,trivial⟩ rfl rfl rfl rfl rfl) ?_;rintro _ _ ⟨rfl,rfl⟩;refine rE 52<|cRg ?_;have b4:j+1≤3:=aH hjB (aC 1);refine rW (vN (j+1)) rfl (okI (bV b4 rfl))<|oR 1 rfl<|rE 54<|.mk _ (.refl _) ⟨(j+1,eP d x,false),λ i=>i,Weak.of_lists _ wT ⟨⟨rfl,(congrArg (λ z:List Pt=>some (Blk.box (mcX (eP d x) (.osl 1 lo n kR) (.sl 2 xF kF) (.sl 2 (z.map ptL) kS) (.sl 9 xT kT)))) hs.2.2.2.1.symm),rfl⟩,⟨rfl,rfl,rfl⟩,trivial⟩ rfl,rfl,⟨by omega,hs.1,hs.2.1.trans hdn,(FH hx).trans hG⟩,by show p.length - (j+1)<p.length - j;omega⟩
    ·have h5p:=aD h5;refine eE ?_;have e:eQ c=d:=by rw[←hG,cT omT];rfl
     rw[e];exact pG (rs:=[]) rfl (σ:=λ z=>z) ⟨rfl,rfl⟩ rfl (cE (λ z=>z) rfl rfl wH rfl)
theorem Sf(c:Co)(nb:Nat)(hm:c.okM nb)(h0:c.rob=[])(kF kS kT:Bool)(xF xT:List (List AV)):pV C0.P C0.G 55 [.ptr 0 0] (heapF [(0,.box (mcX c (.sl 17 [] false) (.sl 2 xF kF) (.sl 2 (c.stores.map ptL) kS) (.sl 9 xT kT)))]) 1 (λ x h'=>x=.tup []∧h'=heapF [(0,.box (mcX (eQ c) (.sl 17 [] false) (.sl 2 xF kF) (.sl 2 ((eQ c).stores.map ptL) kS) (.sl 9 xT kT)))]):=by
 refine HCall.intro (C:=C1) (s:=1) c1Ok.at Tryz.func55 rfl rfl (by kernel_rfl) rfl rfl<|bW<|cSR<|oR 5 rfl<|rV (vB (c.halt != 0)) rfl<|rE 7<|aW rfl (λ h1=>?_) (λ h1=>?_)
 ·refine cO ?_;have e:eQ c=c:=by unfold eQ zP yK;rw[h0];split<;>rfl
  rw[e];exact pG (rs:=[]) rfl (σ:=λ z=>z) ⟨rfl,rfl⟩ rfl (cE (λ z=>z) rfl rfl wH rfl)
 ·refine bB<|cSR<|oR 1 rfl<|rE 8<|cSR<|oR 5 rfl<|rW (vN 0) rfl (uV enL ([]:List Ent) omT)<|rFx (x:=.osl 14 0 0 false) (h':=upd _ 14 (some (.arr (([]:List Int).map iL) 1))) rfl rfl (rfl) (⟨by decide,by decide,by show ((0:Nat):Int)≤1000000;omega⟩)<|oR 1 rfl<|rE 16<|cSR<|oR 5 rfl<|rW (vN 0) rfl (uV enL ([]:List Ent) omT)<|rFx (x:=.osl 22 0 0 false) (h':=upd _ 22 (some (.arr (([]:List Bool).map yN) 1))) rfl rfl (rfl) (⟨by decide,by decide,by show ((0:Nat):Int)≤1000000;omega⟩)<|oR 1 rfl<|rE 24<|ER<|cSR<|oR 5 rfl<|rW (vN 0) rfl (uV enL ([]:List Ent) omT)<|oR 1 rfl<|rE 31<|bK<|rY (κ:=Nat) (λ k=>⟨slotsF [(0,.ptr 0 0),(14,vB (c.halt != 0)),(3,.osl 14 0 0 false),(4,.osl 22 0 0 false),(33,.sl 17 (([]:List Ent).map enL) false),(34,vN 0),(2,vB false),(35,vN k)],heapF [(0,.box (mcX c (.sl 17 (([]:List Ent).map enL) false) (.sl 2 xF kF) (.sl 2 (c.stores.map ptL) kS) (.sl 9 xT kT))),(14,.arr (([]:List Int).map iL) 1),(22,.arr (([]:List Bool).map yN) 1)],31⟩) (λ k=>k≤0) (λ k=>0 - k) 0 (λ s=>s) (Weak.of_lists (λ s=>s) wT wH rfl) rfl (aE _) ?_;intro k hk;have hkB:k≤1000:=by omega
  refine cSR<|rW (vB (decide (k<0))) rfl (okB (ltN _ _))<|rE 32<|bW<|aW rfl (λ h2=>by exact absurd (of_decide_eq_true h2) (dY _)) (λ _=>?_);refine eE<| .mk _ (.step (some (14,1,([]:List Int).map iL)) (Ghost.of_lists (l:=[(0,.ptr 0 0),(14,vB (c.halt != 0)),(3,.sl 1 (([]:List Int).map iL) false),(4,.osl 22 0 0 false),(2,vB false),(36,vB (decide (k<0)))]) (hp:=[(0,.box (mcX c (.sl 17 (([]:List Ent).map enL) false) (.sl 2 xF kF) (.sl 2 (c.stores.map ptL) kS) (.sl 9 xT kT))),(22,.arr (([]:List Bool).map yN) 1)]) rfl rfT rbT) (.step (some (22,1,([]:List Bool).map yN)) (Ghost.of_lists (l:=[(0,.ptr 0 0),(14,vB (c.halt != 0)),(3,.sl 1 (([]:List Int).map iL) false),(4,.sl 1 (([]:List Bool).map yN) false),(2,vB false),(36,vB (decide (k<0)))]) (hp:=[(0,.box (mcX c (.sl 17 (([]:List Ent).map enL) false) (.sl 2 xF kF) (.sl 2 (c.stores.map ptL) kS) (.sl 9 xT kT)))]) rfl rfT rbT) (.refl _)))<|cSR<|oR 9 rfl<|rCi rfl (Yp c.conf.width false [] [] false false (by decide) (by decide))<|rW (vN 0) rfl (uV Qs ([]:List Nat) omT)<|oR 1 rfl<|rE 44<|bK<|rY (κ:=Nat) (λ j=>⟨slotsF [(0,.ptr 0 0),(14,vB (c.halt != 0)),(36,vB (decide (k<0))),(72,.sl 1 (([]:List Nat).map Qs) false),(73,vN 0),(74,vN j)],heapF [(0,.box (mcX c (.sl 17 (([]:List Ent).map enL) false) (.sl 2 xF kF) (.sl 2 (c.stores.map ptL) kS) (.sl 9 xT kT)))],44⟩) (λ j=>j≤0) (λ j=>0 - j) 0 (λ s=>s) (Weak.of_lists (λ s=>s) wT wH rfl) rfl (aE _) ?_;intro j hj;have hjB:j≤1000:=by omega
  refine cSR<|rW (vB (decide (j<0))) rfl (okB (ltN _ _))<|rE 45<|bW<|aW rfl (λ h3=>by exact absurd (of_decide_eq_true h3) (dY _)) (λ _=>?_);refine eE ?_;have e:eQ c=c:=by unfold eQ zP yK;rw[h0];split<;>rfl
  rw[e];exact pG (rs:=[]) rfl (σ:=λ z=>z) ⟨rfl,rfl⟩ rfl (cE (λ z=>z) rfl rfl wH rfl)
def Ua(s:Nat)(c:Co)(F S T:AV)(h':AH):Prop:=
 (c.rob=[]∧h'=heapF [(0,.box (mcX c (.sl 17 [] false) F S T))])∨
 ∃ (b:Nat) (A B:List Ent) (k:Bool),(b=1∧1<s∨b=s)∧A.length+c.rob.length+B.length≤1000∧h'=heapF [(0,.box (mcX c (.osl b A.length c.rob.length k) F S T)),(b,.arr ((A++c.rob++B).map enL) 17)]
theorem FD{c:Co}{R F S S' T T':AV}(hS:S=S')(hT:T=T'):some (Blk.box (mcX c R F S T))=some (Blk.box (mcX c R F S' T')):=by rw[hS,hT]
theorem fH{e:Ent}(h:e.ok):(bZ e).ok:=by
 have hz:(0:Nat)≤4294967295:=aE _;have hv:(if wr e.i≠0 then e.value else 0)≤4294967295:=by
  split
  ·exact h.value
  ·exact hz
 have ha:(if e.halt=4∨e.halt=5 then e.addr else 0)≤4294967295:=by
  split
  ·exact h.addr
  ·exact hz
 unfold bZ
 repeat' split
 all_goals first
  |exact⟨h.pc,h.pc,hz,ha⟩
  |exact⟨h.pc,yL _,h.value,h.addr⟩
  |exact⟨h.pc,yL _,hv,h.addr⟩
  |exact⟨h.pc,yL _,hv,hz⟩
  |exact⟨h.pc,h.next,hv,hz⟩
  |(refine⟨h.pc,?_,?_,?_⟩<;>first|exact yL _|exact h.next|exact h.pc|exact hz|exact h.value|exact h.addr)
theorem Cx{s:Sp}(h:(gA s).isSome=true):s.store=true∧s.halt=0∧(gA s).getD ⟨0,oC⟩=⟨s.addr,rN s.value s.size.toNat⟩:=by
 unfold gA at h⊢;split at h
 ·cases h
 ·rename_i hq;rw[if_neg hq];refine⟨?_,?_,rfl⟩
  ·cases hs:s.store with
   |true=>rfl
   |false=>exact absurd (.inl hs) hq
  ·exact Classical.byContradiction λ e=>hq (.inr (.inl e))
theorem MW{s:Sp}(h:s.ok):((gA s).getD ⟨0,oC⟩).ok:=by
 unfold gA;split
 ·exact⟨aE _⟩
 ·exact⟨h.addr⟩
theorem OS{r:Nat→Nat}{s:Sp}(hr:∀ k,r k≤4294967295)(hs:s.ok)(k:Nat):sF r s k≤4294967295:=by
 unfold sF;split
 ·unfold VR;split
  ·exact hs.value
  ·exact hr k
 ·exact hr k
theorem MX{g:Gu}{pc next:Nat}{i:SI}(h:g.ok)(hR:rM g=true)(hpc:pc≤4294967295)(hn:next≤4294967295):(gQ g pc next i).ok∧rM (gQ g pc next i)=true:=by
 obtain⟨h1,h2,h3⟩:=Wg.1 hR;have happ:∀ x∈g.rets++[up4 pc],x≤4294967295:=rJ (P:=λ x=>x≤4294967295) h.ro (rK (P:=λ x=>x≤4294967295) (yL pc));unfold gQ;split
 ·have hs:∀ x∈g.slots.set (gJ g pc) ⟨pc,next⟩,x.ok:=xW (P:=Gs.ok) h.so ⟨hpc,hn⟩;have hh:(2 * g.hist+(if next≠up4 pc then 1 else 0)) % 8<8:=bA _ (by decide);refine⟨⟨?_,?_,?_,hs,?_⟩,Wg.2 ⟨?_,hh,?_⟩⟩
  ·show (g.slots.set _ _).length≤_;rw[bT,h1];decide
  ·dsimp only;repeat' split
   ·rw[aY,aV,kA];omega
   ·rw[aV,kA];omega
   ·rw[nY];omega
   ·omega
  ·exact aM (Nat.le_of_lt hh) (by decide)
  ·dsimp only;repeat' split
   ·exact Hu (P:=λ x=>x≤4294967295) happ
   ·exact happ
   ·intro x hx;exact h.ro x (nZ _ hx)
   ·exact h.ro
  ·show (g.slots.set _ _).length=8;rw[bT,h1]
  ·dsimp only;repeat' split
   ·rename_i q1 q2;rw[aY];rw[aV,kA]at q2⊢;omega
   ·rename_i q1 q2;omega
   ·rw[nY];omega
   ·exact h3
 ·exact⟨h,hR⟩
theorem mF{c:Co}{s:Sp}(h:(gA s).isSome=true):(fD c s).stores=c.stores++[(gA s).getD ⟨0,oC⟩]:=by
 unfold fD;obtain⟨p,hp⟩:=EK.1 h;rw[hp];rfl
theorem qG{c:Co}{s:Sp}(h:(gA s).isSome=false):(fD c s).stores=c.stores:=by
 unfold fD;have hp:gA s=none:=by simpa using h
 rw[hp]
theorem IZ{s:Sp}:((gA s).getD ⟨0,oC⟩).data.size≤4:=by
 unfold gA;split
 ·exact aE _
 ·show (rN s.value s.size.toNat).size≤4;rw[yC];omega
theorem rG{c:Co}{n:Nat}{s:Sp}(h:c.okM n)(hb:n+1≤890000)(hs:s.ok)(hst:s.store=true→c.stores.length≤999):(fD c s).okM (n+1):=by
 have hS:(fD c s).stores.length≤1000∧(∀ x∈(fD c s).stores,x.ok)∧∀ x∈(fD c s).stores,x.data.size≤4:=by
  cases hq:(gA s).isSome with
  |true=>
   rw[mF hq];have:=hst (Cx hq).1
   exact⟨by simp;omega,rJ h.ok.stoo (rK (P:=Pt.ok) (MW hs)),λ x hx=>(al_List_mem_append.1 hx).elim (h.std x) λ hx=>tO.1 hx ▸ IZ⟩
  |false=>rw[qG hq];exact⟨h.sto,h.ok.stoo,h.std⟩
 have hr:(c.retired++[s]).length≤n+1:=by have:=h.ok.ret;simp;omega
 exact⟨⟨h.ok.conf,h.ok.prog,h.ok.progo,h.ok.r,h.ok.fetch,h.ok.fet,h.ok.feto,h.ok.rob,h.ok.robo,aM hS.1 (by decide),hS.2.1,h.ok.data,h.ok.words,qE h.ok.bus,h.ok.buso,h.ok.asked,h.ok.guessed,h.ok.mem,h.ok.guess,hr,rJ h.ok.reto (rK (P:=Sp.ok) hs)⟩,hb,h.cf,h.data,h.words,h.guess,h.rob,h.fet,hS.1,h.prog,h.mem,hS.2.2⟩
def DT(c:Co)(line:Nat):Co:={c with data:=(eO c line).data,bus:=(eO c line).bus,asked:=(eO c line).asked}
theorem oS(c:Co)(line:Nat):DT c line=eO c line:=by
 unfold DT eO;generalize gC c.data c.bus c.mem line (kQ c.conf c.asked)=t;obtain⟨d,q,a⟩:=t;rfl
def wP(d:Co)(e:Ent):Co:={fD d (bZ e)with r:=sF d.r (bZ e),guess:=gQ d.guess (bZ e).pc (bZ e).next e.i,rob:=d.rob.drop 1}
def DU(d:Co)(e:Ent):Co:={DT (fD d (bZ e)) (bZ e).addr with r:=sF d.r (bZ e),guess:=gQ d.guess (bZ e).pc (bZ e).next e.i,rob:=d.rob.drop 1}
theorem jE{d:Co}{n:Nat}(h:d.halt≠0∨d.rob.length=0):dM n d=d:=by
 cases n with
 |zero=>rfl
 | succ n=>
  unfold dM;by_cases h1:d.halt≠0
  ·exact if_pos h1
  ·rw[if_neg h1];have hz:d.rob=[]:=aX (h.resolve_left h1);rw[hz]
theorem gL{d:Co}{n:Nat}{e:Ent}(hn:0<n)(h: ¬ d.halt≠0)(he:d.rob[0]?=some e):dM n d=if e.is≠3 then d else if (bZ e).halt≠0 then sS d (bZ e)else if (bZ e).store=true∧(d.stores.length:Int)≥d.conf.stores then d else dM (n - 1) (tL d e (bZ e) (d.rob.drop 1)):=by
 cases n with
 |zero=>cases hn
 |succ n=>
  conv=>lhs;unfold dM
  rw[if_neg h]
  cases hz:d.rob with
  |nil=>rw[hz]at he;cases he
  |cons y l=>rw[hz]at he;injection he with he;subst he;rfl
theorem tI{d:Co}{e:Ent}(h: ¬ kindOf e.i.op=3):tL d e (bZ e) (d.rob.drop 1)=wP d e:=by
 unfold tL sT wP;rw[if_neg h]
theorem zG{d:Co}{e:Ent}(h:kindOf e.i.op=3):tL d e (bZ e) (d.rob.drop 1)=DU d e:=by
 unfold tL sT DU;rw[if_pos h,oS]
theorem Ja{d x:Co}{n:Nat}{e:Ent}(hx:x.okM n)(hd:d.okM n)(he:e.ok)(hr:x.rob=d.rob):Co.okM {x with r:=sF d.r (bZ e),guess:=gQ d.guess (bZ e).pc (bZ e).next e.i,rob:=d.rob.drop 1} n:=by
 have hs:=fH he;have hg:=MX (i:=e.i) hd.ok.guess hd.guess hs.pc hs.next;have hl:(d.rob.drop 1).length≤1000:=by have:=hd.rob;rw[aY];omega
 exact⟨⟨hx.ok.conf,hx.ok.prog,hx.ok.progo,OS hd.ok.r hs,hx.ok.fetch,hx.ok.fet,hx.ok.feto,aM hl (by decide),Hu hd.ok.robo,hx.ok.sto,hx.ok.stoo,hx.ok.data,hx.ok.words,hx.ok.bus,hx.ok.buso,hx.ok.asked,hx.ok.guessed,hx.ok.mem,hg.1,hx.ok.ret,hx.ok.reto⟩,hx.nb,hx.cf,hx.data,hx.words,hg.2,hl,hx.fet,hx.sto,hx.prog,hx.mem,hx.std⟩
theorem wQ{d:Co}{n:Nat}{e:Ent}(hd:d.okM n)(hb:n+2≤890000)(he:e.ok)(hst:(bZ e).store=true→d.stores.length≤999):(wP d e).okM (n+2):=
 Ja ((rG hd omT (fH he) hst).mono omT hb) (hd.mono omT hb) he rfl
theorem FE{d:Co}{n:Nat}{e:Ent}(hd:d.okM n)(hb:n+2≤890000)(he:e.ok)(hst:(bZ e).store=true→d.stores.length≤999):(DU d e).okM (n+2):=by
 have h:=DY (rG hd omT (fH he) hst) omT (fH he).addr;rw[←oS]at h;exact Ja h (hd.mono omT hb) he rfl
end Go.Proofs.YtlhofpglndhfaaaGreatDoor
