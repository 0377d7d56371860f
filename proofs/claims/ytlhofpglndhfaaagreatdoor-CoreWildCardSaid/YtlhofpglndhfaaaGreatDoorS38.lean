/- Joined texts. -/
import Derived.RangeFuncNested
import Derived.RangeFuncLeaves
import Derived.TacticsIn
import Derived.OrdersIn
import Derived.Scope
import Derived.Test.YtlhofpglndhfaaaGreatDoorS1
import Derived.Test.YtlhofpglndhfaaaGreatDoorS31
import Derived.Test.YtlhofpglndhfaaaGreatDoorS32
set_option linter.unusedVariables false
set_option linter.unusedSimpArgs false
namespace Go.Proofs.YtlhofpglndhfaaaGreatDoor
open Go.RowKit
structure FOk(F:Fence)(P:Program):Prop where
 fn:∀ f,F.fn f
 dep:F.depth=none
 calls:∀ {f args w R} (m:Nat),Calls P f args w R→CallsIn F m P f args w R
 rows:∀ {r args w R} (m:Nat),Rows P r args w R→RowsIn F m P r args w R
theorem Eg{n:Nat}{P:Program}{row:String}{args:Array Value}{w:World}{R:Value→World→Prop}(h:Rows P row args w R):RowsIn Fence.wide n P row args w R:=
 λ c cs _=>let ⟨v,w',r,s⟩:=h c cs;⟨v,w',r,stepsIn_wide.2 s⟩
theorem Da(P:Program):FOk Fence.wide P:=⟨λ _=>trivial,rfl,λ _ h=>callsIn_wide.2 h,λ _ h=>Eg h⟩
theorem IW(P:Program)(l:Nat):FOk (Fence.wide.inRound l) P:=⟨λ _=>trivial,rfl,λ _ h=>CallsIn.inRound l (callsIn_wide.2 h),λ m h=>(Eg (n:=m) h:_)⟩
def tmk(kp:Nat→Bool)(a a':Act):Prop:=∀ i,kp i=true→a'.tmps.getD i undef=a.tmps.getD i undef
theorem tmk.refl(kp:Nat→Bool)(a:Act):tmk kp a a:=λ _ _=>rfl
theorem tmk.trans{kp:Nat→Bool}{a b c:Act}(h:tmk kp a b)(k:tmk kp b c):tmk kp a c:=λ i hi=>(k i hi).trans (h i hi)
def PF(o:Oper):Bool:=match o.op with| .defer _=>false|_=>true
def IX(kp:Nat→Bool)(o:Oper):Bool:=match o.dst with|some d=> !kp d|none=>true
def IY(kp:Nat→Bool)(l:List Oper):Bool:=l.all λ o=>PF o&&IX kp o
theorem LH{kp:Nat→Bool}{o:Oper}(hk:IX kp o=true)(a:Act)(ds:List Deferred)(v:Value):tmk kp a ({a with defers:=ds}.put o.dst v):=by
 intro i hi;unfold IX at hk
 cases hd:o.dst with
 |none=>rfl
 |some k=>
  rw[hd]at hk;have hne:i≠k:=λ e=>by subst e;simp[hi]at hk
  simp[Act.put,aJ,cX (Ne.symm hne)]
section
variable {F:Fence}{m:Nat}{P:Program}{ops:Array Oper}{Q Q':Exit→Act→World→Prop}{kp:Nat→Bool}
theorem Uq(hF:FOk F P){o:Oper}(hd:PF o=true)(hno: ¬ LetsOut Q)(hQ:∀ c a w,Q (.panic c) a w→Q' (.panic c) a w){a:Act}{w:World}{K:Act→World→Prop}(h:o.wp P a w K Q):
  o.wpIn F m P a w (λ a' w'=>K a' w'∧∃ v ds,a'={a with defers:=ds}.put o.dst v) Q':=by
 unfold Oper.wpIn;refine⟨λ f _=>hF.fn f,?_⟩;rw[Oper.semAt_eq _ _ _ (λ c hc=>by unfold PF at hd;rw[hc]at hd;cases hd)];unfold Oper.wp at h;generalize (execOp a.eval o).run P w=r at h;have dep:F.depth.isSome=true→1≤m:=λ hd=>by rw[hF.dep]at hd;cases hd
 cases r with
 | ok n w'=>
  cases n with
  |value v=>exact⟨h,v,a.defers,rfl⟩
  |skip=>exact⟨h,undef,a.defers,rfl⟩
  |defer d=>exact⟨h,undef,d::a.defers,rfl⟩
  |enter f args=>
   refine⟨dep,hF.calls _ (Calls.mono h λ e w'' he=>?_)⟩
   cases e with
   |returned v=>exact⟨he,v,a.defers,rfl⟩
   |panicked c=>exact hQ _ _ _ he
   |outgrown=>exact absurd he hno
  |row r args=>exact⟨dep,hF.rows _ (Rows.mono h λ v w'' he=>⟨he,v,a.defers,rfl⟩)⟩
  |_=>exact h.elim
 |halt x w'=>cases x<;>first|exact hQ _ _ _ h|exact h.elim
theorem Kr(hF:FOk F P){o:Oper}(hd:PF o=true)(hk:IX kp o=true)(hno: ¬ LetsOut Q)(hQ:∀ c a w,Q (.panic c) a w→Q' (.panic c) a w){a:Act}{w:World}{K K':Act→World→Prop}
  (h:if Region.wanted o (yielded ops a.tmps)then o.wp P a w K Q∨(o.asks P a w∧LetsOut Q)else K (a.put o.dst undef) w) (hK:∀ a' w',K a' w'→tmk kp a a'→K' a' w'):
  if Region.wanted o (yielded ops a.tmps)then o.wpIn F m P a w K' Q' else (∀ f,o.about P w a.eval=some f→F.fn f)∧K' (a.put o.dst undef) w:=by
 split
 ·rename_i hw;simp only[hw,kK]at h;rcases h with h|⟨_,h⟩
  ·exact Oper.wpIn_mono (λ a' w' ⟨h1,v,ds,e⟩=>hK a' w' h1 (by rw[e];exact LH hk a ds v)) (Uq hF hd hno hQ h)
  ·exact absurd h hno
 ·rename_i hw;simp only[hw]at h;exact⟨λ f _=>hF.fn f,hK _ _ h (LH hk a a.defers undef)⟩
def QTm(kp:Nat→Bool)(a0:Act)(Q:Exit→Act→World→Prop):Exit→Act→World→Prop:=λ e a w=>Q e a w∧(e=.normal→tmk kp a0 a)
theorem Hc(hl:IY kp ops.toList=true){i:Nat}{o:Oper}(ho:ops[i]?=some o):PF o=true∧IX kp o=true:=by
 have:=qI.1 hl o (aB (i:=i) (by rw[bJ];exact ho));simpa using this
theorem Hd(hF:FOk F P)(hl:IY kp ops.toList=true)(hno: ¬ LetsOut Q){a0:Act}:∀ (l:List Nat) (a:Act) (w:World),wpOps P ops Q l a w→tmk kp a0 a→wpOpsIn F m P ops (QTm kp a0 Q) l a w
 |[],a,w,h,ht=>⟨h,λ _=>ht⟩
 | i::l,a,w,h,ht=>by
  simp only[wpOps]at h;simp only[wpOpsIn]
  cases ho:ops[i]? with
  |none=>rw[ho]at h;exact Hd hF hl hno l a w h ht
  |some o=>
   rw[ho]at h;obtain⟨h1,h2⟩:=Hc hl ho;exact Kr (ops:=ops) hF h1 h2 hno (λ c a w q=>⟨q,λ e=>by cases e⟩) h λ a' w' hk hm=>Hd hF hl hno l a' w' hk (ht.trans hm)
theorem Bx(hF:FOk F P)(hl:IY kp ops.toList=true)(hno: ¬ LetsOut Q){a0:Act}:∀ (fuel:Nat) (listed:Array Bool) (a:Act) (w:World),wpAny P .any ops Q fuel listed a w→tmk kp a0 a→wpAnyIn F m P .any ops (QTm kp a0 Q) fuel listed a w
 |0,listed,a,w,h,ht=>⟨h.1,h.2,λ _=>ht⟩
 | fuel+1,listed,a,w,h,ht=>by
  refine⟨λ hr=>⟨h.1 hr,λ _=>ht⟩,λ i hi=>?_⟩;have h1:=h.2 i hi;unfold wpOp at h1;unfold wpOpIn
  cases ho:ops[i]? with
  |none=>rw[ho]at h1;exact Bx hF hl hno fuel _ a w h1 ht
  |some o=>
   rw[ho]at h1;obtain⟨h2,h3⟩:=Hc hl ho;exact Kr (ops:=ops) hF h2 h3 hno (λ c a w q=>⟨q,λ e=>by cases e⟩) h1 λ a' w' hk hm=>Bx hF hl hno fuel _ a' w' hk (ht.trans hm)
end
def Inv.still(fr:Nat)(S00:Nat→Prop)(w00:World):Inv fr:=
  ⟨λ S w _=>(∀ b,S00 b→S b∧w.heap[b]?=w00.heap[b]?)∧w00.heap.size≤w.heap.size,
   λ h K=>⟨λ b hb=>⟨K.hS b (h.1 b hb).1,(K.hE.stable b (h.1 b hb).1).trans (h.1 b hb).2⟩,aL h.2 K.hB.size⟩,
   λ h _=>h,λ h _=>⟨λ b hb=>⟨.inl (h.1 b hb).1,(h.1 b hb).2⟩,h.2⟩,λ h e=>⟨λ b hb=>by rw[e];exact h.1 b hb,by rw[e];exact h.2⟩⟩
def nX(N:Nat)(kp:Nat→Bool):Code→Bool
 | .region _ ops _=>uD N ops.toList&&IY kp ops.toList
 | .seq a b=>nX N kp a&&nX N kp b
 | .cond _ a b=>nX N kp a&&nX N kp b
 | .block _ b=>nX N kp b
 | .loop _=>false
 |_=>true
section
variable {F:Fence}{m:Nat}{C:Ctx}{V:Inv C.fr}{w0:World}{S0:Nat→Prop}{N:Nat}{kp:Nat→Bool}{a0:Act}
def Xz(C:Ctx)(V:Inv C.fr)(w0:World)(S0:Nat→Prop)(N:Nat)(kp:Nat→Bool)(a0:Act)(Q:AEx→ASt→Prop)(e:Exit)(a:Act)(w:World):Prop:=∃ e' st S β,e=ES e'∧Q e' st∧SimD C V w0 S0 N (· <st.n) st.t st.h a w S β∧tmk kp a0 a
theorem AD(hF:FOk F C.P)(hC:CtxOk C):∀ (c:Code),nX N kp c=true→∀ (st:ASt) (Q:AEx→ASt→Prop),gC C (bY C) c st Q→∀ (a:Act) (w:World) (S:Nat→Prop) (β:Bt),SimD C V w0 S0 N (· <st.n) st.t st.h a w S β→tmk kp a0 a→
  c.wpIn F m C.P (Xz C V w0 S0 N kp a0 Q) a w:=by
 intro c
 induction c with
 |skip=>intro _ st Q hq a w S β M ht;exact wpIn_skip ⟨.normal,st,S,β,rfl,hq,M,ht⟩
 |label l=>intro _ st Q hq a w S β M ht;exact wpIn_label ⟨.normal,st,S,β,rfl,hq,M,ht⟩
 |exit id=>intro _ st Q hq a w S β M ht;exact wpIn_exit ⟨.exit id,st,S,β,rfl,hq,M,ht⟩
 |ret=>intro _ st Q hq a w S β M ht;exact wpIn_ret ⟨.ret,st,S,β,rfl,hq,M,ht⟩
 | region id ops dr=>
  intro hk st Q hq a w S β M ht;simp only[nX,aK]at hk;obtain⟨t,h,n⟩:=st;simp only[gC]at hq;obtain⟨Q2,hQ2⟩:∃ Q2:Exit→Act→World→Prop,Q2=λ e a w=>e=.normal∧∃ st S β,Q .normal st∧SimD C V w0 S0 N (· <st.n) st.t st.h a w S β:=⟨_,rfl⟩;have hno: ¬ LetsOut Q2:=by rintro ⟨a,w,h⟩;rw[hQ2]at h;cases h.1
  have fin:∀ e a w,QTm kp a0 Q2 e a w→Xz C V w0 S0 N kp a0 Q e a w:=by
   rintro e a w ⟨h1,h2⟩;rw[hQ2]at h1;obtain⟨rfl,st,S,β,h3,h4⟩:=h1;exact⟨.normal,st,S,β,rfl,h3,h4,h2 rfl⟩
  have mk:∀ st' a' w' S' β',Q .normal st'→SimD C V w0 S0 N (· <st'.n) st'.t st'.h a' w' S' β'→Q2 .normal a' w':=λ st' a' w' S' β' h1 h2=>by rw[hQ2];exact⟨rfl,st',S',β',h1,h2⟩
  cases dr with
  |false=>
   simp only[sM]at hq;have:=Di (Q:=Q2) (K:=Q .normal) hC (ops:=ops) rfl hk.1 ops.toList 0 t h a w S β rfl hq M mk;rw[show List.range' 0 ops.toList.length=List.range ops.size by rw[nD,dO]]at this
   exact wpIn_mono (wpIn_region (Hd hF hk.2 hno _ a w this ht)) fin
  | true=>
   simp only[lP]at hq;refine wpIn_mono (wpIn_region_any hC.mixed (Q:=QTm kp a0 Q2) ?_) fin
   cases hl:HJ ops.toList with
   |true=>
    rw[hl]at hq;rcases hq with hq|⟨_,hq⟩
    rotate_left
    ·exact Bx hF hk.2 hno _ _ _ _ (Df (C:=C.noH) (V:=V) hC.noH (λ _ _ _ _ _ h=>h) hk.1 hq (SimD.noH M) (λ st' a' w' S' β' hk' M'=>mk st' a' w' S' β' hk' (SimD.ofNoH M'))) ht
    have M':=M.drawn (w.drawn+1)
    exact Bx hF hk.2 hno _ _ _ _ (BD (C:=C.noH) (V:=V) hC.noH (λ _ _ _ _ _ h=>h) hk.1 (λ st' a' w' S' β' hk' M'=>mk st' a' w' S' β' hk' (SimD.ofNoH M')) ops.size _ t h a _ S β (by simp) hq ⟨M'.T,M'.H,M'.B,λ y l hy=>.inl (M'.dom y l hy),M'.df,M'.sz,M'.G,M'.nw,M'.iv⟩) ht
   |false=>
   rw[hl]at hq;have hd:HI ops.toList=true:=by simp only[HJ,dT,oV]at hl;exact hl.2
   exact Bx hF hk.2 hno _ _ _ _ (EW (C:=C.noH) (V:=V) hC.noH (λ _ _ _ _ _ h=>h) hk.1 hd hq (SimD.noH M) (λ st' a' w' S' β' hk' M'=>mk st' a' w' S' β' hk' (SimD.ofNoH M'))) ht
 | seq x y ihx ihy=>
  intro hk st Q hq a w S β M ht;simp only[nX,aK]at hk;simp only[gC]at hq;rcases hq with hq|hq|hq
  ·refine wpIn_seq (wpIn_mono (ihx hk.1 st _ hq a w S β M ht) ?_);rintro e a' w' ⟨e',st',S',β',rfl,h1,h2,h3⟩
   cases e' with
   |normal=>exact ihy hk.2 st' Q h1 a' w' S' β' h2 h3
   |exit i=>exact⟨.exit i,st',S',β',rfl,h1,h2,h3⟩
   |ret=>exact⟨.ret,st',S',β',rfl,h1,h2,h3⟩
  ·refine wpIn_seq (wpIn_mono (ihx hk.1 st _ hq a w S β M ht) ?_);rintro e a' w' ⟨e',st',S',β',rfl,h1,h2,h3⟩
   cases e' with
   |normal=>
    obtain⟨st2,g1,g2⟩:=h1;obtain⟨S2,h4⟩:=mV g1 h2
    exact ihy hk.2 st2 Q g2 a' w' S2 β' h4 h3
   |exit i=>exact⟨.exit i,st',S',β',rfl,h1,h2,h3⟩
   |ret=>exact⟨.ret,st',S',β',rfl,h1,h2,h3⟩
  ·refine wpIn_seq (wpIn_mono (ihx hk.1 st _ hq a w S β M ht) ?_);rintro e a' w' ⟨e',st',S',β',rfl,h1,h2,h3⟩
   cases e' with
   |normal=>
    obtain⟨st2,g1,st3,σ,hW,hf,g2⟩:=h1;obtain⟨S2,h4⟩:=mV g1 h2
    exact ihy hk.2 st3 Q g2 a' w' S2 _ (oZ hW hf h4) h3
   |exit i=>exact⟨.exit i,st',S',β',rfl,h1,h2,h3⟩
   |ret=>exact⟨.ret,st',S',β',rfl,h1,h2,h3⟩
 | cond c x y ihx ihy=>
  intro hk st Q hq a w S β M ht;simp only[nX,aK]at hk;simp only[gC]at hq;split at hq
  ·rename_i b hb;obtain⟨h1,h2⟩:=hq;have hv:=tR M c;rw[hb]at hv;refine wpIn_cond_split (kW hv) (λ htt=>ihx hk.1 st Q (h1 htt) a w S β M ht) (λ hf=>ihy hk.2 st Q (h2 hf) a w S β M ht)
  ·exact hq.elim
 | block id b ih=>
  intro hk st Q hq a w S β M ht;simp only[nX]at hk;simp only[gC]at hq;refine wpIn_block (wpIn_mono (ih hk st _ hq a w S β M ht) ?_);rintro e a' w' ⟨e',st',S',β',rfl,h1,h2,h3⟩
  cases e' with
  |normal=>exact⟨.normal,st',S',β',rfl,h1,h2,h3⟩
  |ret=>exact⟨.ret,st',S',β',rfl,h1,h2,h3⟩
  | exit i=>
   show Exit.inBlock id _ (.exit i) a' w';simp only at h1;simp only[Exit.inBlock];by_cases hi:i=id
   ·subst hi;rw[if_pos rfl];rw[show Nat.beq i i=true from mS i]at h1;exact⟨.normal,st',S',β',rfl,h1,h2,h3⟩
   ·rw[if_neg hi];have:Nat.beq i id=false:=by rw[←eI];exact λ e=>hi (aM e)
    rw[this]at h1
    exact⟨.exit i,st',S',β',rfl,h1,h2,h3⟩
 |loop b ih=>intro hk;simp[nX]at hk
 |_=>intro _ st Q hq;exact hq.elim
theorem AE(hF:FOk F C.P)(hC:CtxOk C)(nH:NoH C){ops:Array Oper}{all:List Oper}(hall:ops.toList=all)(hb:uD N all=true)(hl:IY kp all=true){K:ASt→Prop}{Q:Exit→Act→World→Prop}{n:Nat}(post:List Nat):∀ (rest:List Oper) (j:Nat) (t:Nat→AV) (h:AH) (a:Act) (w:World) (S:Nat→Prop) (β:Bt),(∃ q,all.drop j=rest++q)→kL C (bY C) all rest j ⟨t,h,n⟩ K→SimD C V w0 S0 N (· <n+j) t h a w S β→tmk kp a0 a→
  (∀ st a' w' S' β',K st→SimD C V w0 S0 N (· <st.n) st.t st.h a' w' S' β'→tmk kp a0 a'→wpOpsIn F m C.P ops Q post a' w')→wpOpsIn F m C.P ops Q (List.range' j rest.length++post) a w
 |[],j,t,h,a,w,S,β,_,hr,M,ht,hQ=>hQ ⟨t,h,n+j⟩ a w S β hr M ht
 | o::rest,j,t,h,a,w,S,β,⟨q,hdrop⟩,hr,M,ht,hQ=>by
  obtain⟨x,h',h1,h2⟩:=(step_inv hr).resolve_right (λ⟨_,f,args,Post,_,hh,_⟩=>nH _ _ _ _ _ hh);have hj:all[j]?=some o:=by
   have:(all.drop j)[0]?=some o:=by rw[hdrop];rfl
   simpa using this
  have hoj:ops[j]?=some o:=by rw[←hj, ←hall,bJ]
  have hmem:o∈all:=aB hj;have hs:β (n+j)=none:=by
   cases hq:β (n+j)with
   |none=>rfl
   |some l=>have:=M.dom _ _ hq;omega
  obtain⟨l1,l2⟩:=Hc (ops:=ops) (kp:=kp) (by rw[hall];exact hl) hoj;rw[bN,nA,mZ];simp only[wpOpsIn,hoj];obtain⟨Q2,hQ2⟩:∃ Q2:Exit→Act→World→Prop,Q2=λ _ _ _=>False:=⟨_,rfl⟩;refine Kr (ops:=ops) (Q:=Q2) hF l1 l2 (by rintro ⟨a,w,h⟩;rw[hQ2]at h;exact h) (λ c a w h=>by rw[hQ2]at h;exact h.elim)
   (wI (K:=λ a' w'=>∃ S' β',SimD C V w0 S0 N (λ y=>y<n+j∨y=n+j) (yO t o.dst x) h' a' w' S' β') hC M hs hall h1 (vJ hb hmem) (λ i pol d _ hd=>AN hb i d hd) λ a' w' S' β' M'=>⟨S',β',M'⟩) ?_
  rintro a' w' ⟨S',β',M'⟩ hm;refine AE hF hC nH hall hb hl post rest (j+1) _ h' a' w' S' β' ⟨q,?_⟩ h2 ?_ (ht.trans hm) hQ
  ·rw[←kJ,hdrop];rfl
  ·exact⟨M'.T,M'.H,M'.B,λ y l hy=>(M'.dom y l hy).elim (λ (h:y<n+j)=>show y<n+(j+1) by omega) (λ (h:y=n+j)=>show y<n+(j+1) by omega),M'.df,M'.sz,M'.G,M'.nw,M'.iv⟩
end
structure Same(K:Nat→Prop)(w w':World):Prop where
 os:w'.os=w.os
 tape:w'.tape=w.tape
 output:w'.output=w.output
 size:w.heap.size≤w'.heap.size
 block:∀ b,b<w.heap.size→K b→w'.heap[b]?=w.heap[b]?
theorem Same.refl(K:Nat→Prop)(w:World):Same K w w:=⟨rfl,rfl,rfl,aC _,λ _ _ _=>rfl⟩
theorem Same.trans{K:Nat→Prop}{a b c:World}(h:Same K a b)(k:Same K b c):Same K a c:=
 ⟨k.os.trans h.os,k.tape.trans h.tape,k.output.trans h.output,aL h.size k.size,λ x hx hk=>(k.block x (Nat.lt_of_lt_of_le hx h.size) hk).trans (h.block x hx hk)⟩
theorem Same.mono{K K':Nat→Prop}{a b:World}(h:Same K a b)(hk:∀ x,x<a.heap.size→K' x→K x):Same K' a b:=⟨h.os,h.tape,h.output,h.size,λ x hx hx'=>h.block x hx (hk x hx hx')⟩
theorem Same.of_below{K:Nat→Prop}{n:Nat}{a b:World}(h:Below n a b)(hk:∀ x,K x→x<n):Same K a b:=⟨h.os,h.tape,h.output,h.size,λ x _ hx=>h.block x (hk x hx)⟩
theorem Hb{F:Fence}{m:Nat}{P:Program}{ops:Array Oper}{Q:Exit→Act→World→Prop}{i:Nat}{rest:List Nat}{o:Oper}{a:Act}{w:World}(ho:ops[i]?=some o)(hg:o.guard=none)(h:o.wpIn F m P a w (wpOpsIn F m P ops Q rest) Q):wpOpsIn F m P ops Q (i::rest) a w:=by
 have:Region.wanted o (yielded ops a.tmps)=true:=by simp[Region.wanted,hg]
 simp only[wpOpsIn,ho,this,kK];exact h
theorem Kq{F:Fence}{m l:Nat}{P:Program}(hF:FOk F P){o:Oper}{f:Operand}{args:Array Operand}{ats:Array TypeId}{vs:Array Value}{a:Act}{w:World}{K:Act→World→Prop}{Q:Exit→Act→World→Prop}{R:Bool→World→Prop}
  (ho:o.op=.call {callee:=.value f,args:=args,argTypes:=ats}) (hf:a.eval f=.func (.yield l) #[] #[]) (ha:args.map a.eval=vs) (hy:YieldAt F m P l vs w λ e w'=>∃ b,e=.returned (.bool b)∧R b w')
  (hK:∀ b w',R b w'→K (a.put o.dst (.bool b)) w'):o.wpIn F (m+1) P a w K Q:=by
 obtain⟨fn,tmps,assign,body,hy,hR⟩:=hy;unfold Oper.wpIn;refine⟨λ f _=>hF.fn f,?_⟩;rw[Oper.semAt_eq _ _ _ (λ c hc=>by rw[ho]at hc;cases hc)];have he:(execOp a.eval o).run P w=.ok (.round l fn tmps assign body) w:=by
  rw[←hy];simp only[execOp,ho,resolve,Deferred.ofValue,hf,ha];simp[invoke]
 rw[he,Oper.uponIn_round];refine⟨λ hd=>(by rw[hF.dep]at hd;cases hd),hR.mono ?_⟩;rintro e w' ⟨b,rfl,hr⟩;exact hK b w' hr
def Wf{α:Type}(P:Program)(g:Nat)(lb:Array Value)(encs:α→Array Value)(xs:List α)(R:Nat→Prop)(w:World):Prop:=
 ∀ (l:Nat) (J:Bool→(Nat→Prop)→List α→World→Prop) (C0:Nat→Prop) (W:World),
  Same R w W→(∀ b,R b→ ¬ C0 b)→
  (∀ s C pre A B,J s C pre A→Same (λ b=>b<W.heap.size∨C b) A B→J s C pre B)→
  (∀ s C pre A,J s C pre A→∀ b,C b→b<A.heap.size)→
  (∀ C pre x A,J false C pre A→pre++[x] <+: xs→YieldAt Fence.wide 1 P l (encs x) A λ e B=>∃ b,e=.returned (.bool b)∧
   ∃ C',J (!b) C' (pre++[x]) B∧Same (λ b=> ¬ C b) A B∧(∀ b,C' b→C b∨A.heap.size≤b))→
  J false C0 [] W→
  Calls P g (#[.func (.yield l) #[] #[]]++lb) W λ e W'=>(∃ v,e=.returned v)∧((∃ C,J false C xs W')∨∃ C pre,pre <+: xs∧J true C pre W')
theorem Ef{α:Type}{P:Program}{g:Operand}{ps:Array Tmp}{assign body:Code}{Q:Exit→Act→World→Prop}{a:Act}{w:World}
  {gf:Nat} {lb:Array Value} (hg:a.eval g=.func (.func gf) #[] lb) (eg:∀ args w,(callFunc gf args).run P w=.ok (.enter gf args) w)
  {encs:α→Array Value} {xs:List α} {R:Nat→Prop} {w0:World} (hseq:Wf P gf lb encs xs R w0) (hR:Same R w0 w) (hRlt:∀ b,R b→b<w0.heap.size) (hps:∀ x,(encs x).size=ps.size)
  (I Ix:(Nat→Prop)→List α→World→Prop) (IA:(Nat→Prop)→List α→α→Act→World→Prop) (C0:Nat→Prop) (hC0:∀ b,C0 b→b<w.heap.size) (hCR:∀ b,R b→ ¬ C0 b)
  (hI:∀ C pre A B,I C pre A→Same (λ b=>b<w.heap.size∨C b) A B→I C pre B)
  (hIx:∀ C pre A B,Ix C pre A→Same (λ b=>b<w.heap.size∨C b) A B→Ix C pre B)
  (hIA:∀ C pre x a A B,IA C pre x a A→Same (λ b=>b<w.heap.size∨C b) A B→IA C pre x a B)
  (hlt:∀ C pre A,I C pre A→∀ b,C b→b<A.heap.size) (hltx:∀ C pre A,Ix C pre A→∀ b,C b→b<A.heap.size)
  (h0:I C0 [] w)
  (hassign:∀ (l:Nat) (C:Nat→Prop) (pre:List α) (x:α) (A:World),I C pre A→pre++[x] <+: xs→w.heap.size≤A.heap.size→
   assign.wpIn (Fence.wide.inRound l) 1 P (Exit.then (λ a1 B=>∃ C',IA C' pre x a1 B∧Same (λ b=> ¬ C b) A B∧(∀ b,C' b→C b∨A.heap.size≤b)) (λ _ _ _=>False))
    {tmps:=(ps.zip (encs x)).foldl (λ t (p,v)=>t.setIfInBounds p v) a.tmps,defers:=[]} A)
  (hbody:∀ (l:Nat) (C:Nat→Prop) (pre:List α) (x:α) (a1:Act) (A:World),IA C pre x a1 A→pre++[x] <+: xs→w.heap.size≤A.heap.size→
   body.wpIn (Fence.wide.inRound l) 1 P (λ e _ B=>∃ C',Same (λ b=> ¬ C b) A B∧(∀ b,C' b→C b∨A.heap.size≤b)∧((e=.normal∧I C' (pre++[x]) B)∨(e=.ret∧Ix C' (pre++[x]) B))) a1 A)
  (hdone:∀ (D:Nat) (C:Nat→Prop) (W:World),w.heap.size≤D→I C xs W→ ¬ C D→W.heap[D]?=some (.deferred (some []))→Q .normal {a with defers:={target:=.collected D,args:= #[]}::a.defers} W)
  (hstop:∀ (D:Nat) (C:Nat→Prop) (pre:List α) (W:World),w.heap.size≤D→pre <+: xs→Ix C pre W→ ¬ C D→W.heap[D]?=some (.deferred (some []))→Q .ret {a with defers:={target:=.collected D,args:= #[]}::a.defers} W):
  (Code.rangeFunc g ps assign body).wp P Q a w:=by
 refine (wpIn_wide (n:=3)).1 (wpIn_rangeFunc ?_);intro fn hfn;show ∃ _,_;obtain⟨rec,hrec⟩:∃ rec:LoopState→Option Code→Loop,rec=λ st pe=>{state:=st,pending:=pe,fn,tmps:=a.tmps,params:=ps,assign,body,defers:=w.heap.size}:=⟨_,rfl⟩;obtain⟨W1,hW1⟩:∃ W1,(w.alloc (.deferred (some []))).alloc (.loop (rec .ready none))=W1:=⟨_,rfl⟩;have hs1:W1.heap.size=w.heap.size+2:=by rw[←hW1];simp
 have hL1:W1.heap[w.heap.size+1]?=some (.loop (rec .ready none)):=by
  rw[←hW1];have:=World.alloc_heap_new (w.alloc (.deferred (some []))) (.loop (rec .ready none));rwa [World.size_alloc]at this
 have hK1:W1.heap[w.heap.size]?=some (.deferred (some [])):=by
  rw[←hW1];exact (Below.heap_alloc _ _ _ (by simp)).trans (World.alloc_heap_new w _)
 have hb1:Below w.heap.size w W1:=by
  rw[←hW1];exact ((Below.refl _ w).alloc (aC _) _).alloc (by simp) _
 have hput:∀ (K:Nat→Prop) (A:World) (o:Obj), ¬ K (w.heap.size+1)→Same K A (A.putObj (w.heap.size+1) o):=λ K A o hk=>
  ⟨rfl,rfl,rfl,by simp,λ b _ hb=>World.putObj_heap_other (λ e=>hk (e ▸ hb))⟩
 refine⟨w.heap.size+1,[{target:=.collected w.heap.size,args:= #[]}],W1,{target:=.fn (.func gf) lb,args:= #[.func (.yield (w.heap.size+1)) #[] #[]]},W1,gf,
  #[.func (.yield (w.heap.size+1)) #[] #[]]++lb,W1,?_,?_,?_,?_,λ _=>by omega,?_⟩
 ·rw[←hW1,hrec];exact run_enterLoop_outer _ _ _ _ _
 ·simp only[resolve,hg];simp[go_sem]
 ·intro f' _;trivial
 ·simp[invoke,go_sem,eg]
 ·refine callsIn_wide.2 ((hseq (w.heap.size+1)
   (λ s CC pre A=>∃ C,(bif s then Ix else I) C pre A∧(∀ b,CC b↔C b∨b=w.heap.size+1)∧(∀ b,C b→b<w.heap.size∨w.heap.size+1<b)∧A.heap[w.heap.size+1]?=some (.loop (bif s then rec .done (some .ret)else rec .ready none))∧A.heap[w.heap.size]?=some (.deferred (some [])))
   (λ b=>C0 b∨b=w.heap.size+1) W1 ?_ ?_ ?_ ?_ ?_ ?_).mono ?_)
  ·exact hR.trans (Same.of_below hb1 λ x hx=>Nat.lt_of_lt_of_le (hRlt x hx) hR.size)
  ·rintro b hb (h|h)
   ·exact hCR b hb h
   ·have:=hRlt b hb;have:=hR.size;omega
  ·rintro s CC pre A B ⟨C,hi,hc,hcl,hl,hk⟩ hs;have l1:=(CI.1 hl).1;have l2:=(CI.1 hk).1;refine⟨C,?_,hc,hcl,(hs.block _ l1 (.inl (by omega))).trans hl,(hs.block _ l2 (.inl (by omega))).trans hk⟩;have hs':Same (λ b=>b<w.heap.size∨C b) A B:=hs.mono λ x _ hx=>hx.elim (λ h=>.inl (by omega)) (λ h=>.inr ((hc x).2 (.inl h)));cases s
   ·exact hI C pre A B hi hs'
   ·exact hIx C pre A B hi hs'
  ·rintro s CC pre A ⟨C,hi,hc,hcl,hl,hk⟩ b hb;rcases (hc b).1 hb with h|h
   ·cases s
    ·exact hlt C pre A hi b h
    ·exact hltx C pre A hi b h
   ·rw[h];exact (CI.1 hl).1
  ·
   rintro CC pre x A ⟨C,hi,hc,hcl,hl,hk⟩ hpre;have l1:=(CI.1 hl).1;have hnr: ¬ C (w.heap.size+1):=λ h=>by have:=hcl _ h;omega
   have hnd: ¬ C (w.heap.size):=λ h=>by have:=hcl _ h;omega
   have hy:=run_yield (P:=P) (args:=encs x) hl (by rw[hrec];exact hps x);rw[hrec]at hy;refine⟨fn,_,assign,body,hy,roundIn_of_wpIn trivial (wpIn_mono (hassign _ C pre x A hi hpre (by omega)) ?_)⟩;intro e a1 B hB;cases e<;>try exact hB.elim
   obtain⟨C',hia,hsB,hgrow⟩:=hB;have hlB:B.heap[w.heap.size+1]?=some (.loop (rec .ready none)):=(hsB.block _ l1 hnr).trans hl;have hkB:B.heap[w.heap.size]?=some (.deferred (some [])):=(hsB.block _ (by omega) hnd).trans hk;have hnr': ¬ C' (w.heap.size+1):=λ h=>(hgrow _ h).elim hnr (λ h=>by omega);have hnd': ¬ C' (w.heap.size):=λ h=>(hgrow _ h).elim hnd (λ h=>by omega);have lB:=(CI.1 hlB).1;refine⟨_,run_beginRound hlB (by rw[hrec]),?_⟩;have hl2:(B.putObj (w.heap.size+1) (.loop {rec .ready none with state:=.busy})).heap[w.heap.size+1]?=some (.loop {rec .ready none with state:=.busy}):=World.putObj_heap_same lB;have hk2:(B.putObj (w.heap.size+1) (.loop {rec .ready none with state:=.busy})).heap[w.heap.size]?=some (.deferred (some [])):=(World.putObj_heap_other (by omega)).trans hkB;have hia2:=hIA C' pre x a1 B _ hia (hput (λ b=>b<w.heap.size∨C' b) B (.loop {rec .ready none with state:=.busy}) (by rintro (h|h);omega;exact hnr' h));refine wpIn_mono (hbody _ C' pre x a1 _ hia2 hpre (by simp;omega)) ?_;rintro e a3 W3 ⟨C3,hs3,hg3,hi3⟩;have hl3:W3.heap[w.heap.size+1]?=some (.loop {rec .ready none with state:=.busy}):=(hs3.block _ (by simp;omega) hnr').trans hl2;have hk3:W3.heap[w.heap.size]?=some (.deferred (some [])):=(hs3.block _ (by simp;omega) hnd').trans hk2;have l3:=(CI.1 hl3).1;have hnr3: ¬ C3 (w.heap.size+1):=λ h=>(hg3 _ h).elim hnr' (λ h=>by simp at h;omega);have hcl3:∀ b,C3 b→b<w.heap.size∨w.heap.size+1<b:=by
    intro b hb;rcases hg3 b hb with h|h
    ·rcases hgrow b h with h|h
     ·exact hcl b h
     ·right;omega
    ·simp at h;right;omega
   have hcat:∀ o,Same (λ b=> ¬ CC b) A (W3.putObj (w.heap.size+1) o):=λ o=>by
    have q1:Same (λ b=> ¬ CC b) A B:=hsB.mono λ b _ hb h=>hb ((hc b).2 (.inl h));have q2:Same (λ b=> ¬ CC b) B (B.putObj (w.heap.size+1) (.loop {rec .ready none with state:=.busy})):=hput _ _ _ (λ h=>h ((hc _).2 (.inr rfl)));have q4:Same (λ b=> ¬ CC b) W3 _:=hput (λ b=> ¬ CC b) W3 o (λ h=>h ((hc _).2 (.inr rfl)));refine Same.trans ?_ q4;have q3:∀ b,b<A.heap.size→ ¬ CC b→W3.heap[b]?=A.heap[b]? :=λ b hb hcc=>by
     have nC: ¬ C b:=λ h=>hcc ((hc b).2 (.inl h));have nC': ¬ C' b:=λ h=>(hgrow b h).elim nC (λ h=>by omega);rw[hs3.block b (by simp;exact Nat.lt_of_lt_of_le hb hsB.size) nC',q2.block b (Nat.lt_of_lt_of_le hb hsB.size) hcc,q1.block b hb hcc]
    exact⟨hs3.os.trans hsB.os,hs3.tape.trans hsB.tape,hs3.output.trans hsB.output,aL hsB.size (by have:=hs3.size;simpa using this),q3⟩
   have grow:∀ b,(C3 b∨b=w.heap.size+1)→CC b∨A.heap.size≤b:=by
    rintro b (h|h)
    ·rcases hg3 b h with h|h
     ·exact (hgrow b h).imp (λ h=>(hc b).2 (.inl h)) id
     ·exact .inr (aL hsB.size (by simpa using h))
    ·exact .inl ((hc b).2 (.inr h))
   rcases hi3 with ⟨rfl,hi3⟩|⟨rfl,hi3⟩
   ·have hr:=run_endRound (P:=P) (none:Option Code) hl3;refine⟨_,_,hr,true,rfl,λ b=>C3 b∨b=w.heap.size+1,⟨C3,?_,λ b=>Iff.rfl,hcl3,?_,?_⟩,hcat _,grow⟩
    ·exact hI C3 _ W3 _ hi3 (hput _ W3 _ (by rintro (h|h);omega;exact hnr3 h))
    ·rw[World.putObj_heap_same l3,hrec];rfl
    ·exact (World.putObj_heap_other (by omega)).trans hk3
   ·have hr:=run_endRound (P:=P) (some Code.ret) hl3;refine⟨_,_,hr,false,rfl,λ b=>C3 b∨b=w.heap.size+1,⟨C3,?_,λ b=>Iff.rfl,hcl3,?_,?_⟩,hcat _,grow⟩
    ·exact hIx C3 _ W3 _ hi3 (hput _ W3 _ (by rintro (h|h);omega;exact hnr3 h))
    ·rw[World.putObj_heap_same l3,hrec];rfl
    ·exact (World.putObj_heap_other (by omega)).trans hk3
  ·refine⟨C0,hI C0 [] w W1 h0 (Same.of_below hb1 λ x hx=>hx.elim id (hC0 x)),λ b=>Iff.rfl,λ b hb=>.inl (hC0 b hb),hL1,hK1⟩
  ·
   rintro e W2 ⟨⟨v,rfl⟩,⟨CC,C,hi,hc,hcl,hl,hk⟩|⟨CC,pre,hpre,C,hi,hc,hcl,hl,hk⟩⟩
   ·have hnr: ¬ C (w.heap.size+1):=λ h=>by have:=hcl _ h;omega
    have hnd: ¬ C (w.heap.size):=λ h=>by have:=hcl _ h;omega
    refine⟨none,_,by have:=run_endLoop (P:=P) hl (by rw[hrec];simp);rw[hrec]at this;exact this,?_⟩;exact hdone w.heap.size C _ (aC _) (hI C xs W2 _ hi (hput _ W2 _ (by rintro (h|h);omega;exact hnr h))) hnd ((World.putObj_heap_other (by omega)).trans hk)
   ·have hnr: ¬ C (w.heap.size+1):=λ h=>by have:=hcl _ h;omega
    have hnd: ¬ C (w.heap.size):=λ h=>by have:=hcl _ h;omega
    refine⟨some .ret,_,by have:=run_endLoop (P:=P) hl (by rw[hrec];simp);rw[hrec]at this;exact this,wpIn_ret ?_⟩;exact hstop w.heap.size C pre _ (aC _) hpre (hIx C pre W2 _ hi (hput _ W2 _ (by rintro (h|h);omega;exact hnr h))) hnd ((World.putObj_heap_other (by omega)).trans hk)
theorem yA{S S':Nat→Prop}{w w':World}{β:Bt}{x:AV}{v:Value}(hr:Rep S w β x v)(hSS:∀ b,S b→S' b)(hS:∀ b,S b→w'.heap[b]?=w.heap[b]?):
  (∀ s l cs e fr,β s=some l→w.heap[l.blk]?=some (Obj.cells cs e fr)→∃ cs':Array Value,w'.heap[l.blk]?=some (.cells cs' e fr)∧cs'.size=cs.size)→Rep S' w' β x v:=by
 induction hr with
 |v x=>intro _;exact .v x
 |agg cs vs hl h1 h ih=>intro hb;exact .agg cs vs hl h1 λ i a u h1 h2=>ih i a u h1 h2 hb
 |tup cs vs hl h ih=>intro hb;exact .tup cs vs hl λ i a u h1 h2=>ih i a u h1 h2 hb
 |sl rs rows clip A c b o u hc hm hcl hrs hA hw h1 hr ih=>
  intro _;refine .sl rs rows clip A c b o u hc hm hcl hrs (λ h=>⟨(hA h).1,hSS _ (hA h).2⟩) (λ i row j a h1 h2=>?_) h1 λ i row j a h1 h2=>ih i row j a h1 h2 (λ s l _ _ _ e=>by cases e);have h0:0<rows.length:=bM (aF i) (Db.1 h1).1;rw[tB (hS b (hA h0).2)]
  exact hw i row j a h1 h2
 |dp rs col row b o u hrs hb hw h1 hr ih=>
  intro _
  exact .dp rs col row b o u hrs (hSS _ hb) (λ j a h1=>by rw[tB (hS b hb)];exact hw j a h1) h1 λ j a h1=>ih j a h1 (λ s l _ _ _ e=>by cases e)
 |ptr s col l hl=>intro hb;exact .ptr s col l hl
 |ptr2 s row col l hl=>intro hb;exact .ptr2 s row col l hl
 |osl s lo len clip l A c hl hc hm hcl hA cs e fr hb room=>
  intro hβ;obtain⟨cs',h1,h2⟩:=hβ _ _ _ _ _ hl hb
  exact .osl s lo len clip l A c hl hc hm hcl hA cs' e fr h1 (by rw[h2];exact room)
 |clo f first caps vs us hl h hl' h' ih ih'=>intro hb;exact .clo f first caps vs us hl (λ i a u h1 h2=>ih i a u h1 h2 hb) hl' λ i a u h1 h2=>ih' i a u h1 h2 hb
 |optT g a x hg h ih=>intro hb;exact .optT g a x hg (ih hb)
 |optF g a hg=>intro _;exact .optF g a hg
 |any x=>intro _;exact .any x
theorem LF{β:Bt}{w w':World}(h:∀ s l o,β s=some l→w.heap[l.blk]?=some o→w'.heap[l.blk]?=some o):
  ∀ s l cs e fr,β s=some l→w.heap[l.blk]?=some (Obj.cells cs e fr)→∃ cs':Array Value,w'.heap[l.blk]?=some (.cells cs' e fr)∧cs'.size=cs.size:=λ s l cs e fr h1 h2=>⟨cs,h s l _ h1 h2,rfl⟩
section
variable {C:Ctx}{V V':Inv C.fr}{w0:World}{S0:Nat→Prop}{N:Nat}
theorem SimD.move{D:Nat→Prop}{t:Nat→AV}{h:AH}{a:Act}{w w':World}{S:Nat→Prop}{β:Bt}(M:SimD C V w0 S0 N D t h a w S β)(hS:∀ b,S b→w'.heap[b]?=w.heap[b]?)
  (hb:∀ s l o,β s=some l→w.heap[l.blk]?=some o→w'.heap[l.blk]?=some o) (h1:w'.os=w.os) (h2:w'.tape=w.tape) (h3:w'.output=w.output) (hsz:w.heap.size≤w'.heap.size) (h0:∀ b,b<w0.heap.size→w'.heap[b]?=w.heap[b]?) (hV:V'.p S w' β):
  SimD C V' w0 S0 N D t h a w' S β:=by
 refine⟨λ i=>yA (M.T i) (λ _ h=>h) hS (LF hb),⟨λ s blk hs=>?_,M.H.inj,λ b hb=>Nat.lt_of_lt_of_le (M.H.lt b hb) hsz,aL M.H.big hsz⟩,⟨h1.trans M.B.os,h2.trans M.B.tape,h3.trans M.B.output,aL M.B.size hsz,λ b hb=>(h0 b hb).trans (M.B.block b hb)⟩,M.dom,M.df,M.sz,λ g cells hg=>yA (M.G g cells hg) (λ _ h=>h) hS (λ s l _ _ _ e=>by cases e),M.nw,hV⟩;obtain⟨l,cs,e,fr,k1,k2,k3,k4,k5,k6⟩:=M.H.own s blk hs;refine⟨l,cs,e,fr,k1,hb _ _ _ k1 k2,k3,k4,k5,?_⟩;have go:∀ a v,Rep S w β a v→Rep S w' β a v:=λ a v hr=>yA hr (λ _ h=>h) hS (LF hb)
 cases blk with
 |box cells=>exact λ j a h1=>let ⟨u,h2,h4,h3⟩:=k6 j a h1;⟨u,h2,h4,go _ _ h3⟩
 |arr rows rs=>exact⟨k6.1,k6.2.1,λ i row j a h1 h2=>let ⟨u,h3,h5,h4⟩:=k6.2.2 i row j a h1 h2;⟨u,h3,h5,yA h4 (λ _ h=>h) hS (λ s l _ _ _ e=>by cases e)⟩⟩
 |row cells=>exact⟨k6.1,λ j a h1=>let ⟨u,h2,h4,h3⟩:=k6.2 j a h1;⟨u,h2,h4,go _ _ h3⟩⟩
theorem SimD.inv{D:Nat→Prop}{t:Nat→AV}{h:AH}{a:Act}{w:World}{S:Nat→Prop}{β:Bt}(M:SimD C V w0 S0 N D t h a w S β)(hV:V'.p S w β):SimD C V' w0 S0 N D t h a w S β:=⟨M.T,M.H,M.B,M.dom,M.df,M.sz,M.G,M.nw,hV⟩
end
theorem Af(S:Nat→Prop)(w:World)(β:Bt)(s:Nat):FrP S w β s S w β:=
 ⟨λ _ h=>h,Evo.refl _ _,aC _,λ _ _ _ h=>h,λ x l h=>.inl ⟨x,l,h,rfl⟩,λ _ h=>.inl h,λ _ _ _=>rfl⟩
def RJ{α:Type}(C:Ctx)(g:FuncId)(caps:List AV)(encs:α→Array Value)(xs:List α):Prop:=
 ∀ (R:Nat→Prop) (w:World) (us:List Value),(∀ b,R b→b<w.heap.size)→GOk C R w→RepL R w noB caps us→Wf C.P g us.toArray encs xs R w
def We(t:Nat→AV):List Nat→List AV→Nat→AV
 |p::ps,x::xs=>We (upd t p x) ps xs
 |_,_=>t
def SP(n:Nat)(t:Nat→AV)(h:AH)(NX:Prop)(K:AEx→ASt→Prop):AEx→ASt→Prop
 | .normal,st=>NX∧GhostN st λ stg=>∃ σ,keepB n σ n=true∧Weak stg ⟨λ _=>.any,h,n⟩ σ
 | .ret,st=>GhostN st λ stg=>∃ h' σ,keepB n σ n=true∧Weak stg ⟨λ _=>.any,h',n⟩ σ∧K .ret ⟨t,h',n⟩
 | .exit _,_=>False
inductive RangeN(C:Ctx)(st:ASt)(g:Operand)(ps:List Nat)(asg body:Code)(K:AEx→ASt→Prop):Prop
 | mk (α:Type) (gf:FuncId) (caps:List AV) (encA:α→List AV) (encs:α→Array Value) (xs:List α) (NX:α→Prop)
   (hg:evA C st.t g=.clo gf [] caps) (hcl:fR caps=true) (hfn:∃ fn,C.P.funcs[gf]?=some fn∧fn.body.isSome=true∧(fn.name== "runtime.NumGoroutine")=false)
   (hit:RJ C gf caps encs xs) (henc:∀ x S w β,RepL S w β (encA x) (encs x).toList) (hps:∀ x,(encA x).length=ps.length) (hfull:CF st.h st.n=true)
   (round:∀ pre x,pre++[x] <+: xs→(∀ y,y∈pre→NX y)→gC (C.at st.n) (bY (C.at st.n)) asg ⟨We st.t ps (encA x),st.h,st.n⟩ (λ e st1=>e=.normal∧gC (C.at st.n) (bY (C.at st.n)) body st1 (SP st.n st.t st.h (NX x) K)))
   (done:(∀ y,y∈xs→NX y)→K .normal st):RangeN C st g ps asg body K
theorem LG{S:Nat→Prop}{w:World}{β:Bt}:∀ (ps:List Nat) (xs:List AV) (vs:List Value) (t:Nat→AV) (tm:Array Value),xs.length=vs.length→ps.length=xs.length→(∀ p∈ps,p<tm.size)→
  (∀ i,Rep S w β (t i) (tm.getD i undef))→(∀ (i:Nat) a u,xs[i]?=some a→vs[i]?=some u→Rep S w β a u)→
  ∀ i,Rep S w β (We t ps xs i) (((ps.zip vs).foldl (λ t (p,v)=>t.setIfInBounds p v) tm).getD i undef)
 |[],xs,vs,t,tm,_,_,_,hT,_=>hT
 |p::ps,[],vs,t,tm,h1,h2,_,hT,_=>by simp at h2
 |p::ps,x::xs,[],t,tm,h1,h2,_,hT,_=>by simp at h1
 | p::ps,x::xs,v::vs,t,tm,h1,h2,hp,hT,hr=>by
  show ∀ i,Rep S w β (We (upd t p x) ps xs i) (((ps.zip vs).foldl (λ t (p,v)=>t.setIfInBounds p v) (tm.setIfInBounds p v)).getD i undef);refine LG ps xs vs _ _ (by simpa using h1) (by simpa using h2) (λ q hq=>by rw[iJ];exact hp q (bZ _ hq)) (λ i=>?_) (λ i a u q1 q2=>hr (i+1) a u (by simpa using q1) (by simpa using q2));by_cases hi:i=p
  ·subst hi;have hlt:=hp i bO;rw[dA,aJ,cZ hlt];exact hr 0 x v rfl rfl
  ·rw[cE _ _ hi,aJ,cX (Ne.symm hi), ←aJ];exact hT i
theorem An:∀ (ps:List Nat) (vs:List Value) (tm:Array Value),((ps.zip vs).foldl (λ t (p,v)=>t.setIfInBounds p v) tm).size=tm.size
 |[],_,_=>rfl
 |_::_,[],_=>rfl
 |p::ps,v::vs,tm=>by
  show ((ps.zip vs).foldl (λ t (p,v)=>t.setIfInBounds p v) (tm.setIfInBounds p v)).size=_;rw[An ps vs,iJ]
theorem IU(ps:Array Nat)(vs:Array Value)(tm:Array Value):(ps.zip vs).foldl (λ t (p,v)=>t.setIfInBounds p v) tm=(ps.toList.zip vs.toList).foldl (λ t (p,v)=>t.setIfInBounds p v) tm:=by
 rw[←Array.foldl_toList,Array.toList_zip]
def dfs:Option Nat→List Deferred
 |none=>[]
 |some D=>[{target:=.collected D,args:= #[]}]
@[reducible] def Ctx.wd(C:Ctx)(d:Option Nat):Ctx:={C with df:=dfs d}
def Up(d:Option Nat)(w0:World)(S:Nat→Prop)(β:Bt)(w:World):Prop:=
 ∀ D,d=some D→w.heap[D]?=some (.deferred (some []))∧ ¬ OwnB β D∧ ¬ S D∧w0.heap.size≤D
def Xj(C:Ctx)(w0:World)(S0:Nat→Prop)(N:Nat)(Q:Option Nat→AEx→ASt→Prop)(e:Exit)(a:Act)(w:World):Prop:=
 ∃ d e' st S β,e=ES e'∧Q d e' st∧SimD (C.wd d) (Inv.any C.fr) w0 S0 N (· <st.n) st.t st.h a w S β∧Up d w0 S β w
theorem IV{P:Program}{f:FuncId}{fn:Func}(g1:P.funcs[f]?=some fn)(g2:fn.body.isSome=true)(g3:(fn.name== "runtime.NumGoroutine")=false) (args:Array Value) (w:World):(callFunc f args).run P w=.ok (.enter f args) w:=by
 simp only[callFunc,Sem.run_bind,program,Sem.run,Result.andThen_ok,g1];have:fn.body.isNone=false:=by cases hb:fn.body<;>simp_all
 simp[g3,this]
section
variable {C:Ctx}{w0:World}{S0:Nat→Prop}{N:Nat}{Q:Option Nat→AEx→ASt→Prop}
theorem Kn(hC:CtxOk C)(hCn:∀ n,CtxOk (C.at n))(hdf:C.df=[]){st:ASt}{g:Operand}{ps:Array Nat}{asg body:Code}(hp:ps.toList.all (λ p=>Nat.blt p N)=true)(hka:nX N (λ _=>false) asg=true)(hkb:nX N (λ _=>false) body=true)
  (R:RangeN C st g ps.toList asg body (λ e st'=>∀ D,Q (some D) e st')) {a:Act} {w:World} {S:Nat→Prop} {β:Bt} (M:SimD C (Inv.any C.fr) w0 S0 N (· <st.n) st.t st.h a w S β):
  (Code.rangeFunc g ps asg body).wp C.P (Xj C w0 S0 N Q) a w:=by
 obtain⟨α,gf,caps,encA,encs,xs,NX,hg,hcl,⟨fn,f1,f2,f3⟩,hit,henc,hps,hfull,round,done⟩:=R;have hfl:=tL hfull;have hge:=tR M g;rw[hg]at hge;have hnm:∀ x l,β x=some l→x<st.n∧w0.heap.size≤l.blk∧l.blk<w.heap.size∧ ¬ S l.blk:=λ x l hx=>by
  have hn:=M.dom x l hx;obtain⟨blk,hblk⟩:=CJ.1 (hfl x hn);obtain⟨l',cs,e,fr,k1,k2,k3,k4,k5,k6⟩:=M.H.own x blk hblk;rw[hx]at k1;cases k1;exact⟨hn,k4,fI k2,k5⟩
 generalize hgv:a.eval g=gv at hge
 cases hge with
 |clo _ _ _ vs us h1 h2 h3 h4=>
 have hvs:vs= #[]:=Array.eq_empty_of_size_eq_zero h1.symm;subst hvs;have hcaps:RepL S w noB caps us.toList:=by
  refine⟨by rw[h3];simp,λ i x u p q=>?_⟩;have:=h4 i x u p (by rw[←bJ];exact q);exact lM this (fQ _ hcl i x p) noB
 have hseq:=hit S w us.toList M.H.lt M.G hcaps;have same0:∀ {A:World},Same (λ b=> ¬ OwnB β b) w A→(∀ b,S b→A.heap[b]?=w.heap[b]?):=λ hs b hb=>
  hs.block b (M.H.lt b hb) λ⟨x,l,q1,q2⟩=>by have:=(hnm x l q1).2.2.2;rw[q2]at this;exact this hb
 let C1:(Nat→Prop)→List α→World→Prop:=λ CC pre A=>(∀ y,y∈pre→NX y)∧∃ SA,SimD (C.at st.n) (Inv.any st.n) w0 S0 N (· <st.n) st.t st.h a A SA β∧(∀ b,SA b→b<w.heap.size∨CC b)∧(∀ b,OwnB β b→CC b)∧(∀ b,CC b→b<A.heap.size)
 let C2:(Nat→Prop)→List α→World→Prop:=λ CC pre A=>∃ SA h',(∀ D,Q (some D) .ret ⟨st.t,h',st.n⟩)∧SimD (C.at st.n) (Inv.any st.n) w0 S0 N (· <st.n) st.t h' a A SA β∧(∀ b,SA b→b<w.heap.size∨CC b)∧(∀ b,OwnB β b→CC b)∧(∀ b,CC b→b<A.heap.size)
 let C3:(Nat→Prop)→List α→α→Act→World→Prop:=λ CC pre x a1 B=>∃ st1 S1 β1 A SA,(∀ y,y∈pre→NX y)∧gC (C.at st.n) (bY (C.at st.n)) body st1 (SP st.n st.t st.h (NX x) (λ e st'=>∀ D,Q (some D) e st'))∧
  SimD (C.at st.n) (Inv.any st.n) w0 S0 N (· <st1.n) st1.t st1.h a1 B S1 β1∧(∀ b,S1 b→b<w.heap.size∨CC b)∧(∀ b,OwnB β b→CC b)∧(∀ b,OwnB β1 b→CC b)∧
  (∀ x l,x<st.n→β x=some l→β1 x=some l)∧
  SimD (C.at st.n) (Inv.any st.n) w0 S0 N (· <st.n) st.t st.h a A SA β∧(∀ b,SA b→S1 b)∧(∀ b,SA b→B.heap[b]?=A.heap[b]?)∧
  (∀ s l cs e fr,β s=some l→A.heap[l.blk]?=some (Obj.cells cs e fr)→∃ cs':Array Value,B.heap[l.blk]?=some (.cells cs' e fr)∧cs'.size=cs.size)∧w.heap.size≤B.heap.size
 have w00:w0.heap.size≤w.heap.size:=M.B.size;have noOwn0:∀ b,b<w0.heap.size→ ¬ OwnB β b:=λ b hb ⟨x,l,q1,q2⟩=>by have:=(hnm x l q1).2.1;omega
 have mv:∀ {CC:Nat→Prop} {A B:World} {D:Nat→Prop} {t:Nat→AV} {h:AH} {a:Act} {SA:Nat→Prop} {β1:Bt},SimD (C.at st.n) (Inv.any st.n) w0 S0 N D t h a A SA β1→(∀ b,SA b→b<w.heap.size∨CC b)→(∀ b,OwnB β1 b→b<w.heap.size∨CC b)→w.heap.size≤A.heap.size→Same (λ b=>b<w.heap.size∨CC b) A B→
   SimD (C.at st.n) (Inv.any st.n) w0 S0 N D t h a B SA β1:=λ X k1 k2 k3 hs=>
  X.move (λ b hb=>hs.block b (X.H.lt b hb) (k1 b hb)) (λ s l o q1 q2=>(hs.block _ (fI q2) (k2 _ ⟨s,l,q1,rfl⟩)).trans q2) hs.os hs.tape hs.output hs.size (λ b hb=>hs.block b (by omega) (.inl (by omega))) trivial
 have big:∀ {D:Nat→Prop} {t:Nat→AV} {h:AH} {a:Act} {A:World} {SA:Nat→Prop} {β1:Bt},SimD (C.at st.n) (Inv.any st.n) w0 S0 N D t h a A SA β1→w0.heap.size≤A.heap.size:=λ X=>X.B.size;refine Ef (gf:=gf) (lb:=us) hgv (IV f1 f2 f3) (by simpa using hseq) (Same.refl _ _) M.H.lt (λ x=>by rw[←dO, ←dO, ←hps x];exact ((henc x S w β).1).symm)
  (λ CC pre A=>C1 CC pre A∧w.heap.size≤A.heap.size) (λ CC pre A=>C2 CC pre A∧w.heap.size≤A.heap.size) C3 (OwnB β) (λ b ⟨x,l,q1,q2⟩=>by have:=(hnm x l q1).2.2.1;omega) (λ b hb ⟨x,l,q1,q2⟩=>by have:=(hnm x l q1).2.2.2;rw[q2]at this;exact this hb)
  ?_ ?_ ?_ ?_ ?_ ?_ ?_ ?_ ?_ ?_
 ·rintro CC pre A B ⟨⟨hN,SA,X,k1,k2,k3⟩,k4⟩ hs;exact⟨⟨hN,SA,mv X k1 (λ b hb=>.inr (k2 b hb)) k4 hs,k1,k2,λ b hb=>Nat.lt_of_lt_of_le (k3 b hb) hs.size⟩,aL k4 hs.size⟩
 ·rintro CC pre A B ⟨⟨SA,h',q,X,k1,k2,k3⟩,k4⟩ hs;exact⟨⟨SA,h',q,mv X k1 (λ b hb=>.inr (k2 b hb)) k4 hs,k1,k2,λ b hb=>Nat.lt_of_lt_of_le (k3 b hb) hs.size⟩,aL k4 hs.size⟩
 ·rintro CC pre x a1 B B' ⟨st1,S1,β1,A,SA,hN,q,X,k1,k2,k3,k5,XA,k6,k7,k8,k9⟩ hs;refine⟨st1,S1,β1,A,SA,hN,q,mv X k1 (λ b hb=>.inr (k3 b hb)) k9 hs,k1,k2,k3,k5,XA,k6,λ b hb=>(hs.block b (X.H.lt b (k6 b hb)) (k1 b (k6 b hb))).trans (k7 b hb),λ s l cs e fr h1 h2=>?_,aL k9 hs.size⟩;obtain⟨cs',h5,h6⟩:=k8 s l cs e fr h1 h2;exact⟨cs',(hs.block _ (fI h5) (.inr (k2 _ ⟨s,l,h1,rfl⟩))).trans h5,h6⟩
 ·rintro CC pre A ⟨⟨hN,SA,X,k1,k2,k3⟩,k4⟩ b hb;exact k3 b hb
 ·rintro CC pre A ⟨⟨SA,h',q,X,k1,k2,k3⟩,k4⟩ b hb;exact k3 b hb
 ·refine⟨⟨(λ y hy=>by cases hy),S,⟨M.T,M.H,M.B,M.dom,M.df,M.sz,M.G,M.nw,trivial⟩,λ b hb=>.inl (M.H.lt b hb),λ b hb=>hb,λ b ⟨x,l,q1,q2⟩=>by have:=(hnm x l q1).2.2.1;omega⟩,aC _⟩
 ·
  rintro l CC pre x A ⟨⟨hN,SA,X,k1,k2,k3⟩,k4⟩ hpre _;have X0:SimD (C.at st.n) (EI SA A β st.n) w0 S0 N (· <st.n) (We st.t ps.toList (encA x)) st.h {tmps:=(ps.zip (encs x)).foldl (λ t (p,v)=>t.setIfInBounds p v) a.tmps,defers:=[]} A SA β:=by
   refine⟨λ i=>?_,X.H,X.B,X.dom,hdf.symm,?_,X.G,X.nw,Af _ _ _ _⟩
   ·rw[IU];have he:=henc x SA A β;exact LG _ _ _ _ _ he.1 (hps x).symm (λ p hq=>by rw[X.sz];exact aR (qI.1 hp p hq)) X.T he.2 i
   ·show ((ps.zip (encs x)).foldl (λ t (p,v)=>t.setIfInBounds p v) a.tmps).size=N;rw[IU,An];exact X.sz
  refine wpIn_mono (AD (C:=C.at st.n) (a0:={tmps:=(ps.zip (encs x)).foldl (λ t (p,v)=>t.setIfInBounds p v) a.tmps,defers:=[]}) (IW C.P l) (hCn st.n) asg hka ⟨_,st.h,st.n⟩ _ (round pre x hpre hN) _ A SA β X0 (tmk.refl _ _)) ?_;rintro e a1 B ⟨e',st1,S1,β1,rfl,⟨rfl,hb⟩,X1, -⟩;have P:FrP SA A β st.n S1 B β1:=X1.iv;refine⟨λ b=>CC b∨OwnB β1 b∨(A.heap.size≤b∧b<B.heap.size),⟨st1,S1,β1,A,SA,hN,hb,X1.inv trivial,λ b hb=>?_,λ b hb=>.inl (k2 b hb),λ b hb=>.inr (.inl hb),λ y l h1 h2=>P.keep y l h1 h2,X,P.hS,λ b hb=>P.hE.stable b hb,λ s l cs e fr h1 h2=>P.hE.shape _ _ _ _ h2,aL k4 P.sz⟩,
   ⟨X1.B.os.trans X.B.os.symm,X1.B.tape.trans X.B.tape.symm,X1.B.output.trans X.B.output.symm,P.sz,λ b hb hn=>P.still b hb λ h=>hn (k2 b h)⟩,λ b hb=>?_⟩
  ·rcases P.nw b hb with h|h|h
   ·exact (k1 b h).imp id .inl
   ·exact .inr (.inr (.inr ⟨h,X1.H.lt b hb⟩))
   ·exact .inr (.inl (k2 b h))
  ·rcases hb with h|⟨y,l,h1,h2⟩|h
   ·exact .inl h
   ·rcases P.own y l h1 with h|h
    ·exact .inl (k2 b (h2 ▸ h))
    ·exact .inr (h2 ▸ h)
   ·exact .inr h.1
 ·
  rintro l CC pre x a1 A1 ⟨st1,S1,β1,A,SA,hN,q,X,k1,k2,k3,k5,XA,k6,k7,k8,k9⟩ hpre _;refine wpIn_mono (AD (C:=C.at st.n) (V:=EI S1 A1 β1 st.n) (a0:=a1) (IW C.P l) (hCn st.n) body hkb st1 _ q a1 A1 S1 β1 (X.inv (Af _ _ _ _)) (tmk.refl _ _)) ?_;rintro e a2 B ⟨e',st2,S2,β2,rfl,hq,X2, -⟩;have fin:∀ (h':AH),(GhostN st2 λ stg=>∃ σ,keepB st.n σ st.n=true∧Weak stg ⟨λ _=>.any,h',st.n⟩ σ)→∃ S3,SimD (C.at st.n) (Inv.any st.n) w0 S0 N (· <st.n) st.t h' a B S3 β∧(∀ b,S3 b→b<w.heap.size∨CC b∨A1.heap.size≤b)∧Same (λ b=> ¬ CC b) A1 B:=by
   rintro h' ⟨stg,hgs,σ,hk,hW⟩;obtain⟨S3,X3⟩:=mV hgs X2;have X4:=oZ hW hk X3;have P:FrP S1 A1 β1 st.n S3 B _:=X4.iv;have hβ:(λ s=>if s<st.n then β2 (σ s)else none)=β:=by
    funext s;by_cases hs:s<st.n
    ·obtain⟨blk,hblk⟩:=CJ.1 (hfl s hs);obtain⟨l',cs,e,fr,q1,_⟩:=M.H.own s blk hblk;rw[q1];exact P.keep s l' hs (k5 s l' hs q1)
    ·simp only[hs,gZ]
     cases hq:β s with
     |none=>rfl
     |some l=>exact absurd (M.dom s l hq) hs
   simp only[hβ]at X4 P;refine⟨S3,⟨λ i=>?_,X4.H,X4.B,λ y l hy=>M.dom y l hy,hdf.symm ▸ XA.df,XA.sz,X4.G,X4.nw,trivial⟩,λ b hb=>?_,⟨X4.B.os.trans X.B.os.symm,X4.B.tape.trans X.B.tape.symm,X4.B.output.trans X.B.output.symm,P.sz,λ b hb hn=>P.still b hb λ h=>hn (k3 b h)⟩⟩
   ·refine yA (XA.T i) (λ b hb=>P.hS b (k6 b hb)) (λ b hb=>(P.hE.stable b (k6 b hb)).trans (k7 b hb)) λ s l cs e fr h1 h2=>?_;obtain⟨cs',h3,h4⟩:=k8 s l cs e fr h1 h2;obtain⟨cs2,h5,h6⟩:=P.hE.shape _ _ _ _ h3;exact⟨cs2,h5,h6.trans h4⟩
   ·rcases P.nw b hb with h|h|h
    ·exact (k1 b h).imp id .inl
    ·exact .inr (.inr h)
    ·exact .inr (.inl (k3 b h))
  cases e' with
  |exit i=>exact hq.elim
  |normal=>
   obtain⟨hNx,hq⟩:=hq;obtain⟨S3,Y,j1,j2⟩:=fin st.h hq;have hN2:∀ y,y∈pre++[x]→NX y:=λ y hy=>(al_List_mem_append.1 hy).elim (hN y) λ h=>tM.1 h ▸ hNx
   exact⟨λ b=>b<B.heap.size∧(CC b∨A1.heap.size≤b),j2,λ b hb=>hb.2,.inl ⟨rfl,⟨hN2,S3,Y,λ b hb=>(j1 b hb).imp id λ h=>⟨Y.H.lt b hb,h⟩,λ b hb=>⟨by obtain⟨y,l,q1,q2⟩:=hb;have:=(hnm y l q1).2.2.1;have:=j2.size;omega,.inl (k2 b hb)⟩,λ b hb=>hb.1⟩,aL k9 j2.size⟩⟩
  |ret=>
   obtain⟨stg,hgs,h',σ,hk,hW,hK⟩:=hq;obtain⟨S3,Y,j1,j2⟩:=fin h' ⟨stg,hgs,σ,hk,hW⟩;exact⟨λ b=>b<B.heap.size∧(CC b∨A1.heap.size≤b),j2,λ b hb=>hb.2,.inr ⟨rfl,⟨S3,h',hK,Y,λ b hb=>(j1 b hb).imp id λ h=>⟨Y.H.lt b hb,h⟩,λ b hb=>⟨by obtain⟨y,l,q1,q2⟩:=hb;have:=(hnm y l q1).2.2.1;have:=j2.size;omega,.inl (k2 b hb)⟩,λ b hb=>hb.1⟩,aL k9 j2.size⟩⟩
 ·rintro D CC W hD ⟨⟨hN,SA,X,k1,k2,k3⟩,k4⟩ hnC hW;refine⟨some D,.normal,st,SA,β,rfl,done hN D,⟨X.T,X.H,X.B,X.dom,?_,X.sz,X.G,X.nw,trivial⟩,λ D' hD'=>?_⟩
  ·show _::a.defers=_;rw[show a.defers=[]from X.df.trans hdf];rfl
  ·cases hD';exact⟨hW,λ h=>hnC (k2 _ h),λ h=>(k1 _ h).elim (λ h=>by omega) hnC,aL w00 hD⟩
 ·rintro D CC pre W hD hpre ⟨⟨SA,h',hK,X,k1,k2,k3⟩,k4⟩ hnC hW;refine⟨some D,.ret,⟨st.t,h',st.n⟩,SA,β,rfl,hK D,⟨X.T,X.H,X.B,X.dom,?_,X.sz,X.G,X.nw,trivial⟩,λ D' hD'=>?_⟩
  ·show _::a.defers=_;rw[show a.defers=[]from X.df.trans hdf];rfl
  ·cases hD';exact⟨hW,λ h=>hnC (k2 _ h),λ h=>(k1 _ h).elim (λ h=>by omega) hnC,aL w00 hD⟩
def uX(N:Nat):Code→Bool
 | .seq a b=>uX N a&&uX N b
 | .cond _ a b=>uX N a&&uX N b
 | .block _ b=>uX N b
 | .scope b=>uX N b
 | .rangeFunc _ ps a b=>ps.toList.all (λ p=>Nat.blt p N)&&(nX N (λ _=>false) a&&nX N (λ _=>false) b)
 |c=>tQ N c
def uY(C:Ctx):Code→Option Nat→ASt→(Option Nat→AEx→ASt→Prop)→Prop
 | .seq a b,d,st,Q=>uY C a d st (λ d' e st'=>match e with| .normal=>uY C b d' st' Q|e=>Q d' e st')
 | .cond c x y,d,st,Q=>match evA C st.t c with| .v (.bool b)=>Branch b (uY C x d st Q) (uY C y d st Q)|_=>False
 | .block id b,d,st,Q=>uY C b d st (λ d' e st'=>match e with| .exit i=>(match Nat.beq i id with|true=>Q d' .normal st'|false=>Q d' (.exit i) st')|e=>Q d' e st')
 | .scope b,d,st,Q=>uY C b d st Q
 | .rangeFunc g ps a b,d,st,Q=>d=none∧GhostN st λ stg=>∃ stw σ,Weak stg stw σ∧keepB C.fr σ stw.n=true∧RangeN C stw g ps.toList a b (λ e st'=>∀ D,Q (some D) e st')
 |c,d,st,Q=>gC (C.wd d) (bY (C.wd d)) c st (Q d)
theorem Ko(hC:∀ d,CtxOk (C.wd d))(hCn:∀ n,CtxOk (C.at n))(hdf:C.df=[]):∀ (c:Code),uX N c=true→∀ (d:Option Nat) (st:ASt) (Q:Option Nat→AEx→ASt→Prop),uY C c d st Q→
  ∀ (a:Act) (w:World) (S:Nat→Prop) (β:Bt),SimD (C.wd d) (Inv.any C.fr) w0 S0 N (· <st.n) st.t st.h a w S β→Up d w0 S β w→c.wp C.P (Xj C w0 S0 N Q) a w:=by
 have base:∀ (c:Code),tQ N c=true→∀ (d:Option Nat) (st:ASt) (Q:Option Nat→AEx→ASt→Prop),gC (C.wd d) (bY (C.wd d)) c st (Q d)→
  ∀ (a:Act) (w:World) (S:Nat→Prop) (β:Bt),SimD (C.wd d) (Inv.any C.fr) w0 S0 N (· <st.n) st.t st.h a w S β→Up d w0 S β w→c.wp C.P (Xj C w0 S0 N Q) a w:=by
  intro c hk d st Q hq a w S β M hd;refine wp_mono (BE (C:=C.wd d) (V:=EI S w β C.fr) (hC d) c hk st _ hq a w S β (M.inv (Af _ _ _ _))) ?_;rintro e a' w' ⟨e',st',S',β',rfl,h1,M'⟩;have P:FrP S w β C.fr S' w' β':=M'.iv;refine⟨d,e',st',S',β',rfl,h1,M'.inv trivial,λ D hD=>?_⟩;obtain⟨k1,k2,k3,k4⟩:=hd D hD;have hlt:=fI k1;refine⟨(P.still D hlt k2).trans k1,λ⟨x,l,q1,q2⟩=>?_,λ h=>?_,k4⟩
  ·rcases P.own x l q1 with h|h
   ·exact k2 (q2 ▸ h)
   ·rw[q2]at h;omega
  ·rcases P.nw D h with h|h|h
   ·exact k3 h
   ·omega
   ·exact k2 h
 intro c
 induction c with
 |seq x y ihx ihy=>
  intro hk d st Q hq a w S β M hd;simp only[uX,aK]at hk;refine wp_seq (wp_mono (ihx hk.1 d st _ hq a w S β M hd) ?_);rintro e a' w' ⟨d',e',st',S',β',rfl,h1,h2,h3⟩
  cases e' with
  |normal=>exact ihy hk.2 d' st' Q h1 a' w' S' β' h2 h3
  |exit i=>exact⟨d',.exit i,st',S',β',rfl,h1,h2,h3⟩
  |ret=>exact⟨d',.ret,st',S',β',rfl,h1,h2,h3⟩
 | cond c x y ihx ihy=>
  intro hk d st Q hq a w S β M hd;simp only[uX,aK]at hk;simp only[uY]at hq;split at hq
  ·rename_i b hb;obtain⟨h1,h2⟩:=hq;have hv:=tR M c;rw[show evA (C.wd d) st.t c=evA C st.t c from rfl,hb]at hv;exact wp_cond_split (kW hv) (λ ht=>ihx hk.1 d st Q (h1 ht) a w S β M hd) (λ hf=>ihy hk.2 d st Q (h2 hf) a w S β M hd)
  ·exact hq.elim
 | block id b ih=>
  intro hk d st Q hq a w S β M hd;refine wp_block (wp_mono (ih hk d st _ hq a w S β M hd) ?_);rintro e a' w' ⟨d',e',st',S',β',rfl,h1,h2,h3⟩
  cases e' with
  |normal=>exact⟨d',.normal,st',S',β',rfl,h1,h2,h3⟩
  |ret=>exact⟨d',.ret,st',S',β',rfl,h1,h2,h3⟩
  | exit i=>
   show Exit.inBlock id _ (.exit i) a' w';simp only at h1;simp only[Exit.inBlock];by_cases hi:i=id
   ·subst hi;rw[if_pos rfl];rw[show Nat.beq i i=true from mS i]at h1;exact⟨d',.normal,st',S',β',rfl,h1,h2,h3⟩
   ·rw[if_neg hi];have:Nat.beq i id=false:=by rw[←eI];exact λ e=>hi (aM e)
    rw[this]at h1
    exact⟨d',.exit i,st',S',β',rfl,h1,h2,h3⟩
 |scope b ih=>
  intro hk d st Q hq a w S β M hd;refine wp_scope_straight (wp_mono (ih hk d st _ hq a w S β M hd) ?_);rintro e a' w' ⟨d',e',st',S',β',rfl,h⟩
  cases e' with
  |normal=>exact⟨d',.normal,st',S',β',rfl,h⟩
  |ret=>exact⟨d',.ret,st',S',β',rfl,h⟩
  |exit i=>exact⟨d',.exit i,st',S',β',rfl,h⟩
 |rangeFunc g ps x y ihx ihy=>
  intro hk d st Q hq a w S β M hd;simp only[uX,aK]at hk;obtain⟨rfl,stg,hgs,stw,σ,hW,hf,hR⟩:=hq;obtain⟨S2,M2⟩:=mV hgs M;have M3:=oZ (C:=C.wd none) hW hf M2;have h0:=hC none
  exact Kn (C:=C) ⟨h0.ty,h0.mixed,h0.hH⟩ hCn hdf hk.1 hk.2.1 hk.2.2 hR ⟨M3.T,M3.H,M3.B,M3.dom,M3.df.trans hdf.symm,M3.sz,M3.G,M3.nw,trivial⟩
 |_=>intro hk d st Q hq;exact base _ hk d st Q hq
theorem bY.introR(hC:∀ d,CtxOk (C.wd d))(hCn:∀ n,CtxOk (C.at n)){f:FuncId}{fn:Func}{body:Code}{args:List AV}{r:AV}(hf:C.P.funcs[f]?=some fn)(hb:fn.body=some body)(hnm:(fn.name== "runtime.NumGoroutine")=false)
  (hN:uX fn.ntmps body=true) (hlen:Nat.ble args.length fn.ntmps=true) (hw:uY C body none ⟨argsT args,λ _=>none,0⟩ (λ d=>Fin (C.wd d) fn r)) (hdf:C.df=[]:=by rfl):bY C f args r:=by
 refine⟨⟨fn,hf,by rw[hb];rfl,hnm⟩,λ S w vs hS hG hargs=>?_⟩;have hlen:=aR hlen;refine callsIn_wide.1 (callsIn_of_wp_marks (n:=3) hf hb trivial ((wpIn_wide (n:=3)).2 ?_));have M0:SimD (C.wd none) (Inv.any C.fr) w S fn.ntmps (· <(0:Nat)) (argsT args) (λ _=>none) {tmps:=vs.toArray++Array.replicate (fn.ntmps - vs.toArray.size) undef,defers:=[]} w S noB:=by
  have hl:vs.length=args.length:=hargs.1.symm;refine⟨λ i=>?_,⟨λ s blk h=>(by cases h),λ s s' l l' h=>absurd rfl h,hS,aC _⟩,Below.refl _ _,λ x l h=>(by cases h),rfl,by simp;omega,hG,λ _ h=>.inl h,trivial⟩;rw[yP]
  cases ha:args[i]? with
  |none=>exact .any _
  | some x=>
   have hi:i<vs.length:=by rw[hl];exact (Db.1 ha).1
   have hv:vs[i]?=some vs[i]:=aA hi;have:(vs.toArray++Array.replicate (fn.ntmps - vs.toArray.size) undef).getD i undef=vs[i]:=by
    rw[aJ,dL (by simpa using hi),eK,hv];rfl
   rw[this];exact hargs.2 i x _ ha hv
 refine wp_mono (Ko (C:=C) hC hCn hdf body hN none ⟨argsT args,λ _=>none,0⟩ _ hw _ w S noB M0 (λ D h=>by cases h)) ?_;rintro e a' w' ⟨d,e',st,S',β',rfl,hfin,M,hd⟩;have fin:Sg (C.wd d) fn r st→∀ w2:World,SimD (C.wd d) (Inv.any C.fr) w S fn.ntmps (· <st.n) st.t st.h a' w2 S' β'→∃ v,(results fn a'.tmps).run C.P w2=.ok v w2∧∃ v',Ending.returned v=.returned v'∧Below w.heap.size w w2∧Rep (λ b=>S b∨(w.heap.size≤b∧b<w2.heap.size)) w2 noB r v':=by
  rintro ⟨rs,h1,h2,h3,h4⟩ w2 M;obtain⟨t,h,n⟩:=st;obtain⟨us,g1,g2⟩:=Hs (hC d) M _ rs h1;refine⟨_,wX _ us g1 fn rfl,_,rfl,M.B,?_⟩;have hret:Rep S' w2 β' (Cz rs) (if h:us.toArray.size=1 then us.toArray[0]else .tuple us.toArray):=by
   match rs,us,g2 with
   |[],us,g2=>
    have:us=[]:=bF g2.1.symm;subst this
    exact .tup [] #[] rfl λ i a u p=>by simp at p
   |[x],us,g2=>
    match us,g2 with
    |[u],g2=>simpa [Cz]using g2.2 0 x u rfl rfl
    |[],g2=>exact absurd g2.1 (by simp)
    |_::_::_,g2=>exact absurd g2.1 (by simp)
   | x::y::zs,us,g2=>
    have hne: ¬ us.toArray.size=1:=by
     have:=g2.1;simp at this⊢;omega
    rw[dif_neg hne];exact .tup _ _ (by simpa using g2.1) λ i a u p q=>g2.2 i a u p (by simpa using q)
  have hd:=AL M.H hret h2;refine h4 _ _ _ ?_;exact (lM hd h3 noB).mono (λ b hb=>hb.elim (λ hb=>(M.nw b hb).imp id λ h=>⟨h,M.H.lt b hb⟩) .inr) (Evo.refl _ _) (Jk.refl _)
 have go:Sg (C.wd d) fn r st→LeavesInM Fence.wide 3 C.P fn a'.tmps (λ e w'=>∃ v,e=.returned v∧Below w.heap.size w w'∧Rep (λ b=>S b∨(w.heap.size≤b∧b<w'.heap.size)) w' noB r v) a'.defers .returning w':=by
  intro hr;have hdf':a'.defers=dfs d:=M.df;rw[hdf']
  cases d with
  |none=>exact fin hr w' M
  |some D=>
   obtain⟨k1,k2,k3,k4⟩:=hd D rfl;refine⟨by simp,.inl ⟨D,_,rfl,run_takeDeferred k1,fin hr _ ?_⟩⟩;have ho:∀ b,b≠D→(w'.putObj D (.deferred none)).heap[b]?=w'.heap[b]? :=λ b hb=>World.putObj_heap_other hb;exact M.move (λ b hb=>ho b λ e=>k3 (e ▸ hb)) (λ s l o q1 q2=>(ho _ λ e=>k2 ⟨s,l,q1,e⟩).trans q2) rfl rfl rfl (by simp) (λ b hb=>ho b (by omega)) trivial
 cases e' with
 |normal=>exact go hfin
 |ret=>exact go hfin
 |exit i=>exact hfin.elim
end
end Go.Proofs.YtlhofpglndhfaaaGreatDoor
