/- Joined texts. -/
import Derived.Test.YtlhofpglndhfaaaGreatDoorS801
import Derived.Test.YtlhofpglndhfaaaGreatDoorS828
import Derived.Test.YtlhofpglndhfaaaGreatDoorS836
set_option linter.unusedVariables false
set_option linter.unusedSimpArgs false
namespace Go.Proofs.YtlhofpglndhfaaaGreatDoor
open Go.RowKit
theorem Ot{x:Int}(h1: -9223372036854775808≤x)(h2:x<9223372036854775808):wrap64 x=x:=by unfold wrap64;omega
theorem GG(q:List Req)(k:Int)(line:Nat)(left:Int)(data:ByteArray):nI (zG q k line left data)=nI q+if k=4 then 0 else 1:=by
 unfold nI zG;rw[jY,aW];by_cases h:k=4<;>simp[h]
theorem Ou(q:List Req):nI (eF q).1≤nI q:=by
 cases q with
 |nil=>exact aC _
 |cons x r=>
  unfold eF;dsimp only;split
  ·unfold nI;simp only[List.filter_cons];by_cases h:x.kind=4<;>simp[h]
  ·unfold nI;simp only[List.filter_cons];by_cases h:x.kind=4<;>simp[h]
structure Bd(f:Cf)(a:Nat)(c:Co):Prop where
 conf:c.conf=f
 rob:(c.rob.length:Int)≤f.rob
 fet:(c.fetched.length:Int)≤f.queue
 sto:(c.stores.length:Int)≤f.stores
 rd:(nI c.bus:Int)≤f.slots
 ret:c.retired.length=a
theorem bring_bus(c:Co)(line:Nat):((eI c line).bus=c.bus∧(eI c line).asked=c.asked)∨∃ l d,(eI c line).bus=zG c.bus 4 l (lJ c.conf c.asked) d∧(eI c line).asked=wrap64 (c.asked+1):=by
 unfold eI;rcases hB:iA c.data c.bus c.mem line (lJ c.conf c.asked)with ⟨d,q,asked⟩;show (q=c.bus∧(if asked=true then wrap64 (c.asked+1)else c.asked)=c.asked)∨∃ l d,q=zG c.bus 4 l (lJ c.conf c.asked) d∧(if asked=true then wrap64 (c.asked+1)else c.asked)=wrap64 (c.asked+1);unfold iA at hB;split at hB
 ·cases hB;exact .inl ⟨rfl,rfl⟩
 ·split at hB
  ·cases hB;exact .inl ⟨rfl,rfl⟩
  ·split at hB
   split at hB
   ·cases hB;exact .inr ⟨_,_,rfl,rfl⟩
   ·cases hB;exact .inl ⟨rfl,rfl⟩
theorem LK(c:Co)(line:Nat):nI (eI c line).bus≤nI c.bus:=by
 rcases bring_bus c line with ⟨h, -⟩|⟨l,d,h, -⟩
 ·rw[h];exact aC _
 ·rw[h,GG,if_pos rfl];exact aC _
theorem Ov(c:Co)(line:Nat):(eI c line).conf=c.conf∧(eI c line).rob=c.rob∧(eI c line).fetched=c.fetched∧(eI c line).stores=c.stores∧(eI c line).retired=c.retired:=by
 rw[←pB];exact⟨rfl,rfl,rfl,rfl,rfl⟩
theorem Bd.bring{f:Cf}{a:Nat}{c:Co}(h:Bd f a c)(line:Nat):Bd f a (eI c line):=by
 obtain⟨h1,h2,h3,h4,h5⟩:=Ov c line;have:=LK c line;exact⟨h1.trans h.conf,h2 ▸ h.rob,h3 ▸ h.fet,h4 ▸ h.sto,by have:=h.rd;omega,h5 ▸ h.ret⟩
theorem Xo{c:Co}{b:Bool}(h:qV c b=true):(nI c.bus:Int)<c.conf.slots:=by
 unfold qV at h;split at h
 ·exact of_decide_eq_true h
 ·have:=of_decide_eq_true h;omega
theorem Bd.ask{f:Cf}{a:Nat}{c:Co}(h:Bd f a c){k:Int}{b:Bool}(hr:qV c b=true∨k=4)(line:Nat)(data:ByteArray):Bd f a (iT c k line data):=by
 refine⟨h.conf,h.rob,h.fet,h.sto,?_,h.ret⟩;show ((nI (zG c.bus k line _ data):Nat):Int)≤_;rw[GG];have h1:=h.rd;rcases hr with hr|hr
 ·have:=Xo hr;rw[h.conf]at this;split<;>omega
 ·rw[if_pos hr];omega
theorem Up{f:Cf}{a:Nat}{c:Co}(h:Bd f a c):Bd f a (jL c):=by
 have hb:Bd f a (iR c):=⟨h.conf,h.rob,h.fet,h.sto,by have:=Ou c.bus;have:=h.rd;show ((nI (eF c.bus).1:Nat):Int)≤_;omega,h.ret⟩;rw[iM];split
 ·unfold Be
  repeat' split
  ·exact⟨hb.conf,by show ((List.map _ _).length:Int)≤_;rw[aH];exact hb.rob,hb.fet,hb.sto,hb.rd,hb.ret⟩
  ·exact⟨hb.conf,hb.rob,hb.fet,hb.sto,hb.rd,hb.ret⟩
  ·exact hb.bring _
  ·exact⟨hb.conf,hb.rob,hb.fet,hb.sto,hb.rd,hb.ret⟩
  ·exact hb
 ·exact hb
theorem Xp(l:List Ent)(i:Nat):(BZ l i).length≤l.length:=by
 unfold BZ;split
 ·rename_i e he;have:=(DN.1 he).1;rw[aW,aL];simp;omega
 ·exact aC _
theorem Uq{f:Cf}{a:Nat}{c:Co}(h:Bd f a c)(hq:0≤f.queue):Bd f a (iD c):=by
 have hl:=mG c;unfold iD;split
 ·exact h
 ·split
  ·rename_i i _;exact⟨h.conf,by have:=Xp (dD c) i;have:=h.rob;show ((BZ (dD c) i).length:Int)≤_;omega,hq,h.sto,h.rd,h.ret⟩
  ·exact⟨h.conf,by have:=h.rob;show ((dD c).length:Int)≤_;omega,h.fet,h.sto,h.rd,h.ret⟩
theorem Vj{f:Cf}{a:Nat}{c:Co}(h:Bd f a c)(s:Sp)(hs: ¬ (s.store=true∧(c.stores.length:Int)≥c.conf.stores)):Bd f (a+1) (dP c s):=by
 refine⟨h.conf,h.rob,h.fet,?_,h.rd,by show (c.retired++[s]).length=_;rw[aW,h.ret];rfl⟩;show (((match gG s with|some p=>c.stores++[p]|none=>c.stores).length:Nat):Int)≤_;split
 ·rename_i p hp;have hst:s.store=true:=by
   unfold gG at hp;split at hp
   ·cases hp
   ·rename_i q;cases hb:s.store with
    |true=>rfl
    |false=>exact absurd (.inl hb) q
  have h1: ¬ (c.stores.length:Int)≥c.conf.stores:=λ q=>hs ⟨hst,q⟩;rw[h.conf]at h1;rw[aW];show ((c.stores.length+1:Nat):Int)≤_;omega
 ·exact h.sto
theorem RH{f:Cf}{a:Nat}{c:Co}(h:Bd f a c)(e:Ent)(hs: ¬ ((bH e).store=true∧(c.stores.length:Int)≥c.conf.stores)):Bd f (a+1) (xL c e):=by
 have k:=Vj h (bH e) hs;exact⟨k.conf,by have:=h.rob;show ((c.rob.drop 1).length:Int)≤_;rw[aX];omega,k.fet,k.sto,k.rd,k.ret⟩
theorem RI{f:Cf}{a:Nat}{c:Co}(h:Bd f a c)(e:Ent)(hs: ¬ ((bH e).store=true∧(c.stores.length:Int)≥c.conf.stores)):Bd f (a+1) (Et c e):=by
 have k:=(Vj h (bH e) hs).bring (bH e).addr;rw[←pB]at k;exact⟨k.conf,by have:=h.rob;show ((c.rob.drop 1).length:Int)≤_;rw[aX];omega,k.fet,k.sto,k.rd,k.ret⟩
theorem Bo{f:Cf}(h0:0≤f.rob∧0≤f.queue):∀ (n:Nat) (c:Co) (a:Nat),Bd f a c→∃ b,a≤b∧b≤a+n∧Bd f b (eB n c)
 |0,c,a,h=>⟨a,aC _,aC _,h⟩
 | n + 1,c,a,h=>by
  by_cases hz:c.halt≠0∨c.rob.length=0
  ·rw[jE hz];exact⟨a,aC _,by omega,h⟩
  ·have hx:c.rob[0]?=some (c.rob[0]'omT):=aA omT;rw[fV omT (λ q=>hz (.inl q)) hx];split
   ·exact⟨a,aC _,by omega,h⟩
   ·split
    ·exact⟨a+1,by omega,by omega,⟨h.conf,h0.1,h0.2,h.sto,h.rd,by show (c.retired++[_]).length=_;rw[aW,h.ret];rfl⟩⟩
    ·split
     ·exact⟨a,aC _,by omega,h⟩
     ·rename_i hs;rw[gK];by_cases hk:kindOf (c.rob[0]'omT).i.op=3
      ·rw[zX hk];obtain⟨b,h1,h2,h3⟩:=Bo h0 n _ _ (RI h _ hs);exact⟨b,by omega,by omega,h3⟩
      ·rw[tY hk];obtain⟨b,h1,h2,h3⟩:=Bo h0 n _ _ (RH h _ hs);exact⟨b,by omega,by omega,h3⟩
theorem Bd.setE{f:Cf}{a:Nat}{c:Co}(h:Bd f a c)(i:Nat)(e:Ent):Bd f a (setE c i e):=⟨h.conf,by show ((c.rob.set i e).length:Int)≤_;rw[bZ];exact h.rob,h.fet,h.sto,h.rd,h.ret⟩
theorem Xq{f:Cf}{a:Nat}{c:Co}(h:Bd f a c)(i:Nat):Bd f a (kL c i):=by
 unfold kL
 cases c.rob[i]? with
 |none=>exact h
 |some e=>
  dsimp only
  repeat' split
  all_goals first|exact h|exact h.setE _ _|(rename_i q;exact (h.ask (.inl q.1) _ _).setE _ _)
theorem Ur{f:Cf}{a:Nat}{c:Co}(h:Bd f a c)(i:Nat):Bd f a (fH c i):=by
 unfold fH
 cases c.rob[i]? with
 |none=>exact h
 | some e=>
  dsimp only;split
  ·exact h.setE _ _
  ·split
   ·exact Xq (h.setE _ _) i
   ·exact h.setE _ _
theorem Kq{f:Cf}{a:Nat}:∀ (p:List Nat) (c:Co),Bd f a c→Bd f a (p.foldl fH c)
 |[],_,h=>h
 |i::p,_,h=>Kq p _ (Ur h i)
theorem RJ{f:Cf}{a:Nat}{c:Co}(h:Bd f a c):Bd f a (fF c):=by
 unfold fF;split
 ·exact h
 ·exact Kq _ c h
theorem GI{f:Cf}{a:Nat}:∀ (n:Nat) (c:Co),Bd f a c→Bd f a (jM n c)
 |0,_,h=>h
 | n+1,c,h=>by
  by_cases h0:(c.rob.length:Int)≥c.conf.rob∨c.fetched.length=0
  ·rw[rI h0];exact h
  ·have hx:c.fetched[0]?=some (c.fetched[0]'omT):=aA omT;have e:=uU (n:=n+1) (k:=0) omT (λ q=>h0 (.inl q)) hx;rw[show n+1 - (0+1)=n by omega,show n+1 - 0=n+1 by omega]at e;rw[←e];have hc:=h.conf;refine GI n _ ⟨h.conf,?_,?_,h.sto,h.rd,h.ret⟩
   ·show ((c.rob++[_]).length:Int)≤_;rw[aW];show ((c.rob.length+1:Nat):Int)≤_;rw[hc]at h0;omega
   ·have:=h.fet;show ((c.fetched.drop 1).length:Int)≤_;rw[aX];omega
theorem RK{f:Cf}{a:Nat}{c:Co}(h:Bd f a c):Bd f a (iP c):=by
 unfold iP;split
 ·exact h
 ·exact GI _ c h
theorem Fe{f:Cf}{a:Nat}:∀ (n:Nat) (c:Co),Bd f a c→Bd f a (eG n c)
 |0,_,h=>h
 | n +1,c,h=>by
  by_cases h0:c.stop=true∨(c.fetched.length:Int)≥c.conf.queue
  ·rw[pV h0];exact h
  ·have hl:((c.fetched.length+1:Nat):Int)≤f.queue:=by have:=h.conf;rw[this]at h0;omega
   by_cases hf:(fetchP c.prog c.fetch).isSome=false
   ·rw[rJ omT h0 hf];exact⟨h.conf,h.rob,by show ((c.fetched++[_]).length:Int)≤_;rw[aW];exact hl,h.sto,h.rd,h.ret⟩
   ·by_cases hw:(bF c.words (lineOf c.fetch)).2.isSome=false
    ·rw[nQ omT h0 hf hw];split
     ·rename_i q;exact h.ask (.inl q.2) _ _
     ·exact h
    ·have e:=tG (n:=n+1) (k:=0) omT h0 hf hw;rw[show n+1 - (0+1)=n by omega,show n+1 - 0=n+1 by omega]at e;rw[←e];refine Fe n _ ?_;have hb:∀ w,(cQ (gY c) w).1.conf=c.conf∧(cQ (gY c) w).1.rob=c.rob∧(cQ (gY c) w).1.fetched=c.fetched∧(cQ (gY c) w).1.stores=c.stores∧(cQ (gY c) w).1.bus=c.bus∧(cQ (gY c) w).1.retired=c.retired:=by
      intro w;unfold cQ
      repeat' split
      all_goals exact⟨rfl,rfl,rfl,rfl,rfl,rfl⟩
     obtain⟨b1,b2,b3,b4,b5,b6⟩:=hb (fetchW c.prog c.fetch);refine⟨b1.trans h.conf,?_,?_,?_,?_,?_⟩
     ·show (((cQ (gY c) (fetchW c.prog c.fetch)).1.rob.length:Nat):Int)≤_;rw[b2];exact h.rob
     ·show ((((cQ (gY c) (fetchW c.prog c.fetch)).1.fetched++[_]).length:Nat):Int)≤_;rw[b3,aW];exact hl
     ·show (((cQ (gY c) (fetchW c.prog c.fetch)).1.stores.length:Nat):Int)≤_;rw[b4];exact h.sto
     ·show ((nI (cQ (gY c) (fetchW c.prog c.fetch)).1.bus:Nat):Int)≤_;rw[b5];exact h.rd
     ·show (cQ (gY c) (fetchW c.prog c.fetch)).1.retired.length=_;rw[b6];exact h.ret
theorem Ow{f:Cf}{a:Nat}{c:Co}(h:Bd f a c):Bd f a (dY c):=by
 unfold dY;split
 ·exact h
 ·exact Fe _ c h
theorem RL{f:Cf}{a:Nat}{c:Co}(h:Bd f a c):Bd f a (pX c):=by
 have h1:Bd f a (aU c):=by
  refine⟨h.conf,h.rob,h.fet,?_,h.rd,h.ret⟩;have:=h.sto;show (((nU c.stores c.data).1.length:Nat):Int)≤_;unfold nU
  repeat' split
  all_goals first|omega|(rename_i hs _;rw[hs]at this;simp at this⊢;omega)|(rename_i hs;simp[hs]at this⊢;omega)|(simp at this⊢;omega)
 have hA:∀ {d:Co},Bd f a d→Bd f a (mV d):=λ {d} k=>by
  unfold mV;split
  ·exact k
  ·split
   ·rename_i q;exact k.ask (.inl q.2) _ _
   ·exact k
 have hB:∀ {d:Co},Bd f a d→Bd f a (kJ d):=λ {d} k=>by
  unfold kJ;split
  ·exact k
  ·unfold mI;split
   ·split
    ·rename_i w _ _;have q:=k.ask (k:=4) (b:=true) (.inr rfl) w.line w.data;exact⟨q.conf,q.rob,q.fet,q.sto,q.rd,q.ret⟩
    ·exact k
   ·exact k
 rw[jJ];split
 ·exact hB (hA h1)
 ·exact hB h1
theorem Xr{f:Cf}(h0:0≤f.rob∧0≤f.queue){c:Co}{a:Nat}(h:Bd f a c):∃ b,a≤b∧b≤a+f.width.toNat∧Bd f b (lI c):=by
 unfold lI;split
 ·have hs:Bd f a (s0 c):=⟨h.conf,h.rob,h.fet,h.sto,h.rd,h.ret⟩;have hw:=Uq (Up hs) h0.2;obtain⟨b,h1,h2,h3⟩:=Bo h0 (iD (jL (s0 c))).conf.width.toNat _ a hw;rw[hw.conf]at h2;exact⟨b,h1,h2,RL (Ow (RK (RJ h3)))⟩
 ·exact⟨a,aC _,by omega,h⟩
theorem fJ(e:Ent):tI e=true↔((0≤e.is∧e.is≤3)∧(e.is=1→0<e.left)∧(e.is≠1→e.left=0)∧(e.is=2→kindOf e.i.op=3∧e.known=true)∧(e.halt≠0→e.is=3∨(e.is=1∧kindOf e.i.op=5∧e.halt=3))∧(RR e.i=true∨e.halt=1∨e.halt=2)):=by
 unfold tI;by_cases h1:e.is<0∨e.is>3
 ·rw[if_pos h1];exact⟨λ h=>(by cases h),λ h=>by omega⟩
 rw[if_neg h1];by_cases h2:(e.is=1∧e.left≤0)∨(e.is≠1∧e.left≠0)
 ·rw[if_pos h2];refine⟨λ h=>(by cases h),λ⟨_,a,b,_⟩=>?_⟩;rcases h2 with ⟨x,y⟩|⟨x,y⟩
  ·have:=a x;omega
  ·exact absurd (b x) y
 rw[if_neg h2];by_cases h3:e.is=2∧(kindOf e.i.op≠3∨e.known=false)
 ·rw[if_pos h3];refine⟨λ h=>(by cases h),λ⟨_,_,_,a,_⟩=>?_⟩;have:=a h3.1;rcases h3.2 with x|x
  ·exact absurd this.1 x
  ·rw[this.2]at x;cases x
 rw[if_neg h3];by_cases h4:e.halt≠0∧e.is≠3∧ ¬ (e.is=1∧kindOf e.i.op=5∧e.halt=3)
 ·rw[if_pos h4];refine⟨λ h=>(by cases h),λ⟨_,_,_,_,a,_⟩=>?_⟩;rcases a h4.1 with x|x
  ·exact absurd x h4.2.1
  ·exact absurd x h4.2.2
 rw[if_neg h4];have q3:e.is=2→kindOf e.i.op=3∧e.known=true:=λ x=>by
  refine⟨Classical.byContradiction λ y=>h3 ⟨x,.inl y⟩,?_⟩
  cases hk:e.known with
  |true=>rfl
  |false=>exact absurd ⟨x,.inr hk⟩ h3
 have q4:e.halt≠0→e.is=3∨(e.is=1∧kindOf e.i.op=5∧e.halt=3):=λ x=>Classical.byContradiction λ y=>h4 ⟨x,λ z=>y (.inl z),λ z=>y (.inr z)⟩;have q2:e.is=1→0<e.left:=λ x=>Classical.byContradiction λ y=>h2 (.inl ⟨x,by omega⟩);have q5:e.is≠1→e.left=0:=λ x=>Classical.byContradiction λ y=>h2 (.inr ⟨x,y⟩);by_cases h5:RR e.i=true
 ·rw[if_pos h5];exact⟨λ _=>⟨by omega,q2,q5,q3,q4,.inl h5⟩,λ _=>rfl⟩
 ·rw[if_neg h5];refine⟨λ h=>⟨by omega,q2,q5,q3,q4,.inr (by simpa using h)⟩,λ⟨_,_,_,_,_,a⟩=>?_⟩;rcases a with a|a
  ·exact absurd a h5
  ·simpa using a
structure EvEnt(M:Int)(e:Ent):Prop where
 st:tI e=true
 kn:e.known=true→kindOf e.i.op=3∨kindOf e.i.op=4→nX M e.addr (dE e.i.op)=true
 s4:kindOf e.i.op=4→e.is=0∨e.is=3
 k4:kindOf e.i.op=4→e.is=3→e.halt=0→e.known=true
theorem EvEnt.go{M:Int}{e:Ent}(h:EvEnt M e):EvEnt M (goE e):=by
 obtain⟨h1,h2,h3,h4,h5,h6⟩:=(fJ e).1 h.st;unfold goE;by_cases hi:e.is≠1
 ·rw[if_pos hi];exact h
 rw[if_neg hi];have hi:e.is=1:=Classical.not_not.1 hi;have n4:kindOf e.i.op≠4:=λ q=>by rcases h.s4 q with x|x<;>omega
 by_cases hl:wrap64 (e.left - 1)≤0
 ·rw[if_pos hl];refine⟨(fJ _).2 ⟨by simp,λ q=>absurd q (by simp),λ _=>rfl,λ q=>absurd q (by simp),λ _=>.inl rfl,h6⟩,λ a b=>?_,λ q=>absurd q n4,λ q=>absurd q n4⟩;refine h.kn ?_ b;have a:(if kindOf e.i.op=5∧e.halt=0 then true else e.known)=true:=a;have b:kindOf e.i.op=3∨kindOf e.i.op=4:=b
  rwa [if_neg omT]at a
 ·rw[if_neg hl];refine⟨(fJ _).2 ⟨h1,λ _=>by show 0<wrap64 (e.left - 1);omega,λ q=>absurd hi q,h4,h5,h6⟩,h.kn,h.s4,h.k4⟩
theorem Ul{op:Int}{a b:Nat}(hk:kindOf op=2)(ha:a≤4294967295)(hb:b≤4294967295):0<zH op a b:=by
 have ho:42≤op∧op≤45:=by
  unfold kindOf at hk
  (repeat' split at hk)<;>omega
 unfold zH;rw[if_neg omT];split
 ·decide
 ·rename_i q;have h1:kP op b≤kP op a:=by omega
  have h2:=xV op b omT (λ z=>q (.inl z));have:=JJ (kP op b) (kP op a) (pZ op b omT) (pZ op a omT) h1 omT;omega
theorem EvEnt.start{M:Int}{e:Ent}(h:EvEnt M e){a b:Nat}(ha:a≤4294967295)(hb:b≤4294967295):EvEnt M (pD e a b):=by
 obtain⟨h1,h2,h3,h4,h5,h6⟩:=(fJ e).1 h.st;unfold pD;by_cases hi:e.is≠0∨kindOf e.i.op=3∨kindOf e.i.op=4
 ·rw[if_pos hi];exact h
 rw[if_neg hi];have hh:e.halt=0:=Classical.byContradiction λ q=>by rcases h5 q with x|x<;>omega
 have n4:kindOf e.i.op≠4:=λ q=>hi (.inr (.inr q));have n3: ¬ (kindOf e.i.op=3∨kindOf e.i.op=4):=λ q=>hi (.inr q);by_cases k1:kindOf e.i.op=1
 ·rw[if_pos k1];exact⟨(fJ _).2 ⟨by simp,λ _=>by simp,λ q=>absurd rfl q,λ q=>absurd q (by simp),λ q=>absurd hh q,h6⟩,λ _ q=>absurd q n3,λ q=>absurd q n4,λ q=>absurd q n4⟩
 rw[if_neg k1];by_cases k2:kindOf e.i.op=2
 ·rw[if_pos k2];exact⟨(fJ _).2 ⟨by simp,λ _=>by have:=Ul k2 ha hb;show (0:Int)<((zH e.i.op a b:Nat):Int);omega,λ q=>absurd rfl q,λ q=>absurd q (by simp),λ q=>absurd hh q,h6⟩,λ _ q=>absurd q n3,λ q=>absurd q n4,λ q=>absurd q n4⟩
 rw[if_neg k2];by_cases k5:kindOf e.i.op=5
 ·rw[if_pos k5];split
  ·exact⟨(fJ _).2 ⟨by simp,λ _=>by simp,λ q=>absurd rfl q,λ q=>absurd q (by simp),λ q=>absurd hh q,h6⟩,λ _ q=>absurd q n3,λ q=>absurd q n4,λ q=>absurd q n4⟩
  ·refine⟨(fJ _).2 ⟨by simp,λ _=>by simp,λ q=>absurd rfl q,λ q=>absurd q (by simp),λ _=>.inr ⟨rfl,k5,rfl⟩,?_⟩,λ _ q=>absurd q n3,λ q=>absurd q n4,λ q=>absurd q n4⟩;rcases h6 with x|x|x
   ·exact .inl x
   ·omega
   ·omega
 ·rw[if_neg k5];exact⟨(fJ _).2 ⟨by simp,λ _=>by simp,λ q=>absurd rfl q,λ q=>absurd q (by simp),λ q=>absurd hh q,h6⟩,λ _ q=>absurd q n3,λ q=>absurd q n4,λ q=>absurd q n4⟩
theorem EvEnt.addr{M:Int}{e:Ent}(h:EvEnt M e)(a:Nat):EvEnt M (qY e M a):=by
 obtain⟨h1,h2,h3,h4,h5,h6⟩:=(fJ e).1 h.st;unfold qY;by_cases hi:(kindOf e.i.op≠3∧kindOf e.i.op≠4)∨e.is≠0∨e.known=true
 ·rw[if_pos hi];exact h
 rw[if_neg hi];have i0:e.is=0:=Classical.byContradiction λ q=>hi (.inr (.inl q));have hh:e.halt=0:=Classical.byContradiction λ q=>by rcases h5 q with x|x<;>omega
 have hl:e.left=0:=h3 omT;split
 ·rename_i hr;exact⟨(fJ _).2 ⟨h1,h2,h3,λ q=>absurd (show e.is=2 from q) omT,h5,h6⟩,λ _ _=>hr,h.s4,λ _ _ _=>rfl⟩
 ·have hk:e.known=false:=by cases hq:e.known with
   |false=>rfl
   |true=>exact absurd (.inr (.inr hq)) hi
  refine⟨(fJ _).2 ⟨by simp,λ q=>absurd q (by simp),λ _=>hl,λ q=>absurd q (by simp),λ _=>.inl rfl,?_⟩,λ q=>(by rw[show e.known=true from q]at hk;cases hk),λ _=>.inr rfl,λ _ _ q=>?_⟩
  ·rcases h6 with x|x|x
   ·exact .inl x
   ·omega
   ·omega
  ·have q:(if kindOf e.i.op=4 then (5:Int)else 4)=0:=q;split at q<;>omega
theorem EvEnt.take{M:Int}{e:Ent}(h:EvEnt M e)(s:ByteArray):EvEnt M (sJ e s):=by
 obtain⟨h1,h2,h3,h4,h5,h6⟩:=(fJ e).1 h.st;unfold sJ;by_cases hi:kindOf e.i.op≠3∨e.known=false∨(e.is≠0∧e.is≠2)
 ·rw[if_pos hi];exact h
 rw[if_neg hi];have hh:e.halt=0:=Classical.byContradiction λ q=>by rcases h5 q with x|x<;>omega
 exact⟨(fJ _).2 ⟨by simp,λ _=>by simp,λ q=>absurd rfl q,λ q=>absurd q (by simp),λ q=>absurd hh q,h6⟩,h.kn,λ q=>absurd (show kindOf e.i.op=4 from q) omT,λ q=>absurd (show kindOf e.i.op=4 from q) omT⟩
theorem EvEnt.store{M:Int}{e:Ent}(h:EvEnt M e)(b:Nat):EvEnt M (qS e b):=by
 obtain⟨h1,h2,h3,h4,h5,h6⟩:=(fJ e).1 h.st;unfold qS;by_cases hi:kindOf e.i.op≠4∨e.known=false∨e.is≠0
 ·rw[if_pos hi];exact h
 rw[if_neg hi];have i0:e.is=0:=Classical.byContradiction λ q=>hi (.inr (.inr q))
 have hk:e.known=true:=by cases hq:e.known with
  |true=>rfl
  |false=>exact absurd (.inr (.inl hq)) hi
 exact⟨(fJ _).2 ⟨by simp,λ q=>absurd q (by simp),λ _=>h3 omT,λ q=>absurd q (by simp),λ _=>.inl rfl,h6⟩,h.kn,λ _=>.inr rfl,λ _ _ _=>hk⟩
theorem EvEnt.fill{M:Int}{e:Ent}(h:EvEnt M e)(c:Co)(line:Nat):EvEnt M (uA c line e):=by
 unfold uA;split
 ·exact EvEnt.take (e:={e with filled:=true}) ⟨h.st,h.kn,h.s4,h.k4⟩ _
 ·exact h
theorem EvEnt.wait{M:Int}{e:Ent}(h:EvEnt M e)(h3:kindOf e.i.op=3)(hk:e.known=true)(h0:e.is=0∨e.is=2):EvEnt M {e with is:=2}:=by
 obtain⟨h1,h2,hl,h4,h5,h6⟩:=(fJ e).1 h.st;have hh:e.halt=0:=Classical.byContradiction λ q=>by rcases h5 q with x|x<;>omega
 exact⟨(fJ _).2 ⟨by simp,λ q=>absurd q (by simp),λ _=>hl omT,λ _=>⟨h3,hk⟩,λ q=>absurd hh q,h6⟩,h.kn,λ q=>absurd (show kindOf e.i.op=4 from q) omT,λ q=>absurd (show kindOf e.i.op=4 from q) omT⟩
theorem aaZ(e:Ent):(goE e).no=e.no:=by unfold goE;(repeat' split)<;>rfl
theorem Um(e:Ent)(a b:Nat):(pD e a b).no=e.no:=by unfold pD;(repeat' split)<;>rfl
theorem RG(e:Ent)(M:Int)(a:Nat):(qY e M a).no=e.no:=by unfold qY;(repeat' split)<;>rfl
theorem LJ(e:Ent)(s:ByteArray):(sJ e s).no=e.no:=by unfold sJ;split<;>rfl
theorem Un(e:Ent)(b:Nat):(qS e b).no=e.no:=by unfold qS;split<;>rfl
theorem Uo(c:Co)(line:Nat)(e:Ent):(uA c line e).no=e.no:=by
 unfold uA;split
 ·rw[LJ]
 ·rfl
structure RoLst(M nx:Int)(l:List Ent):Prop where
 ev:∀ e∈l,EvEnt M e∧e.no<nx
 up:(l.map (·.no)).Pairwise (· < ·)
theorem RoLst.nil{M nx:Int}:RoLst M nx []:=⟨λ _ h=>(List.not_mem_nil h).elim,.nil⟩
theorem RoLst.map{M nx:Int}{l:List Ent}(h:RoLst M nx l){f:Ent→Ent}(hf:∀ e,EvEnt M e→EvEnt M (f e))(hn:∀ e,(f e).no=e.no):RoLst M nx (l.map f):=by
 refine⟨λ e he=>?_,?_⟩
 ·obtain⟨x,hx,rfl⟩:=sS.1 he;exact⟨hf x (h.ev x hx).1,by rw[hn];exact (h.ev x hx).2⟩
 ·rw[List.map_map,show ((λ e:Ent=>e.no)∘f)=λ e=>e.no from funext hn];exact h.up
theorem RoLst.set{M nx:Int}{l:List Ent}(h:RoLst M nx l){i:Nat}{x e:Ent}(hx:l[i]?=some x)(he:EvEnt M e)(hn:e.no=x.no):RoLst M nx (l.set i e):=by
 refine⟨λ y hy=>?_,?_⟩
 ·rcases List.mem_or_eq_of_mem_set hy with q|rfl
  ·exact h.ev y q
  ·exact⟨he,by rw[hn];exact (h.ev x (aB hx)).2⟩
 ·rw[List.map_set,hn];rw[show (l.map (·.no)).set i x.no=l.map (·.no)from ?_]
  ·exact h.up
  ·refine dF λ j=>?_;by_cases hj:i=j
   ·subst hj;have hl:=(DN.1 hx).1;rw[aR (by rw[aH];exact hl),bD,hx];rfl
   ·rw[gQ hj]
theorem RoLst.sub{M nx:Int}{l k:List Ent}(h:RoLst M nx l)(hs:k.Sublist l):RoLst M nx k:=
 ⟨λ e he=>h.ev e (hs.mem he),h.up.sublist (hs.map _)⟩
theorem RoLst.cut{M nx:Int}{l:List Ent}(h:RoLst M nx l)(i:Nat):RoLst M nx (BZ l i):=by
 unfold BZ;split
 ·rename_i e he;have hi:=(DN.1 he).1;have hs:(l.take i++[{e with guess:=e.next}])=(l.set i {e with guess:=e.next}).take (i+1):=by
   rw[bS,aR hi,List.take_set_of_le (aC _)];rfl
  rw[hs];have hev:=(h.ev e (aB he)).1;exact (h.set he (e:={e with guess:=e.next}) ⟨hev.st,hev.kn,hev.s4,hev.k4⟩ rfl).sub (List.take_sublist _ _)
 ·exact h
theorem RoLst.push{M nx:Int}{l:List Ent}(h:RoLst M nx l){e:Ent}(he:EvEnt M e)(hn:e.no=nx):RoLst M (nx+1) (l++[e]):=by
 refine⟨λ y hy=>?_,?_⟩
 ·rcases al_List_mem_append.1 hy with q|q
  ·have:=h.ev y q;exact⟨this.1,by omega⟩
  ·rw[uD.1 q];exact⟨he,by omega⟩
 ·rw[eZ,List.pairwise_append];refine⟨h.up,List.pairwise_singleton _ _,λ a ha b hb=>?_⟩;obtain⟨y,hy,rfl⟩:=sS.1 ha;have:=(h.ev y hy).2;have hb:b=e.no:=by simpa using hb
  omega
theorem RoLst.right{M nx:Int}{l:List Ent}(h:RoLst M nx l)(h8:l.length≤8):Cb l=true:=by
 unfold Cb;rw[aK,iK];refine⟨lE h8,λ i hi=>?_⟩;unfold EF;split
 ·rename_i e he;rw[aK];refine⟨?_,(h.ev e (aB he)).1.st⟩
  cases i with
  |zero=>rfl
  |succ i=>
   have hl:=(DN.1 he).1;have hx:l[i]?=some (l[i]'omT):=aA omT;have:=List.pairwise_iff_getElem.1 h.up i (i+1) (by rw[aH];omega) (by rw[aH];omega) omT;rw[List.getElem_map,List.getElem_map]at this;have e2:l[i+1]=e:=(DN.1 he).2;rw[e2]at this;unfold Wo;rw[show i+1 - 1=i by omega,hx];simp[this]
 ·rfl
theorem RoLst.stores{M nx:Int}{r:Nat→Nat}{l:List Ent}(h:RoLst M nx l):∀ k,RoLst M nx (cK r l k)
 |0=>h
 | k+1=>by
  have ih:=RoLst.stores (r:=r) h k;show RoLst M nx (storeAt r (cK r l k) k);unfold storeAt;split
  ·rename_i e he;split
   ·split
    ·exact ih.set he ((ih.ev e (aB he)).1.store _) (Un _ _)
    ·exact ih
   ·exact ih
  ·exact ih
theorem xX(c:Ca)(k:Nat)(s:List Wy):(nV c k s).sets.length=c.sets.length∧(nV c k s).ways=c.ways:=⟨bZ,rfl⟩
theorem Fc(c:Ca)(line:Nat):(oT c line).sets.length=c.sets.length∧(oT c line).ways=c.ways:=by
 unfold oT;split
 ·exact xX _ _ _
 ·exact⟨rfl,rfl⟩
theorem Kn(c:Ca)(line:Nat)(d:ByteArray)(b:Bool):(pH c line d b).1.sets.length=c.sets.length∧(pH c line d b).1.ways=c.ways:=by
 unfold pH;split
 ·split
  ·exact xX _ _ _
  ·split<;>exact xX _ _ _
 ·exact⟨rfl,rfl⟩
theorem LF(c:Ca)(a:Nat)(b:ByteArray):(tL c a b).1.sets.length=c.sets.length∧(tL c a b).1.ways=c.ways:=by
 unfold tL;split
 ·split
  ·split
   ·exact⟨rfl,rfl⟩
   ·exact xX _ _ _
  ·exact⟨rfl,rfl⟩
 ·exact⟨rfl,rfl⟩
theorem LG(c:Ca)(line:Nat):(qN c line).sets.length=c.sets.length∧(qN c line).ways=c.ways:=by
 unfold qN;split
 ·exact xX _ _ _
 ·exact⟨rfl,rfl⟩
theorem LH(c:Co)(line:Nat):(eI c line).data.sets.length=c.data.sets.length∧(eI c line).data.ways=c.data.ways:=by
 have hp:=Kn c.data (lineOf line) (Fj (jQ c.bus c.mem) (lineOf line)) false;unfold eI;rcases hB:iA c.data c.bus c.mem line (lJ c.conf c.asked)with ⟨d,q,asked⟩;show d.sets.length=_∧d.ways=_;unfold iA at hB;split at hB
 ·cases hB;exact⟨rfl,rfl⟩
 ·split at hB
  ·cases hB;exact Fc _ _
  ·split at hB
   rename_i hq;rw[hq]at hp;split at hB<;>(cases hB;exact hp)
structure RcCor(q:Int)(c:Co):Prop where
 ro:RoLst c.mem.size c.next c.rob
 lo:0≤c.next
 nx:c.next≤q
 da:(c.data.sets.length:Int)=c.conf.sets∧c.data.ways=c.conf.ways
 wo:(c.words.sets.length:Int)=c.conf.sets∧c.words.ways=c.conf.ways
 sp:∀ p∈c.stores,nX c.mem.size p.addr p.data.size=true
 pg:c.prog.length≤64
theorem RA(c:Co)(line:Nat):(eI c line).mem=c.mem∧(eI c line).next=c.next∧(eI c line).rob=c.rob∧(eI c line).conf=c.conf∧(eI c line).words=c.words∧(eI c line).stores=c.stores∧(eI c line).prog=c.prog:=by
 rw[←pB];exact⟨rfl,rfl,rfl,rfl,rfl,rfl,rfl⟩
theorem RcCor.bring{q:Int}{c:Co}(h:RcCor q c)(line:Nat):RcCor q (eI c line):=by
 obtain⟨h1,h2,h3,h4,h5,h6,h7⟩:=RA c line;have hs:=LH c line;exact⟨by rw[h1,h2,h3];exact h.ro,by rw[h2];exact h.lo,by rw[h2];exact h.nx,by rw[hs.1,hs.2,h4];exact h.da,by rw[h5,h4];exact h.wo,by rw[h6,h1];exact h.sp,by rw[h7];exact h.pg⟩
theorem RcCor.rob{q:Int}{c d:Co}(h:RcCor q c)(hr:RoLst c.mem.size c.next d.rob)(h1:d.mem=c.mem)(h2:d.next=c.next)(h3:d.data=c.data)(h4:d.words=c.words)(h5:d.conf=c.conf)(h6:d.stores=c.stores)(h7:d.prog=c.prog):RcCor q d:=
 ⟨by rw[h1,h2];exact hr,by rw[h2];exact h.lo,by rw[h2];exact h.nx,by rw[h3,h5];exact h.da,by rw[h4,h5];exact h.wo,by rw[h6,h1];exact h.sp,by rw[h7];exact h.pg⟩
theorem Uh{q:Int}{c:Co}(h:RcCor q c):RcCor q (jL c):=by
 have hb:RcCor q (iR c):=⟨h.ro,h.lo,h.nx,h.da,h.wo,h.sp,h.pg⟩;rw[iM];split
 ·unfold Be
  repeat' split
  ·exact hb.rob (hb.ro.map (λ e he=>he.fill _ _) (λ e=>Uo _ _ e)) rfl rfl rfl rfl rfl rfl rfl
  ·have:=Kn (iR c).words (eF c.bus).2.1.line mR false;exact⟨hb.ro,hb.lo,hb.nx,hb.da,by show ((pH _ _ _ _).1.sets.length:Int)=_∧(pH _ _ _ _).1.ways=_;rw[this.1,this.2];exact hb.wo,hb.sp,hb.pg⟩
  ·exact hb.bring _
  ·have e:(qO (iR c).mem [⟨(eF c.bus).2.1.line,(eF c.bus).2.1.data⟩]).size=(iR c).mem.size:=iB ..;exact⟨by show RoLst ((qO _ _).size:Int) _ _;rw[e];exact hb.ro,hb.lo,hb.nx,hb.da,hb.wo,by show ∀ p∈_,nX ((qO _ _).size:Int) _ _=true;rw[e];exact hb.sp,hb.pg⟩
  ·exact hb
 ·exact hb
theorem Ui{q:Int}{c:Co}(h:RcCor q c):RcCor q (iD c):=by
 have hw:RoLst c.mem.size c.next (dD c):=RoLst.stores (h.ro.map (λ e he=>he.go) aaZ) _;unfold iD;split
 ·exact h
 ·split
  ·rename_i i _;exact h.rob (hw.cut i) rfl rfl rfl rfl rfl rfl rfl
  ·exact h.rob hw rfl rfl rfl rfl rfl rfl rfl
theorem RB(x n:Nat)(h:n=1∨n=2∨n=4):(sL x n).size=n:=by
 rcases h with rfl|rfl|rfl<;>rfl
theorem Vi{q:Int}{c:Co}(h:RcCor q c){e:Ent}(he:e∈c.rob)(h3:e.is=3):RcCor q (dP c (bH e)):=by
 refine⟨h.ro,h.lo,h.nx,h.da,h.wo,?_,h.pg⟩;show ∀ p∈(match gG (bH e)with|some p=>c.stores++[p]|none=>c.stores),_;split
 ·rename_i p hp;intro y hy;rcases al_List_mem_append.1 hy with r|r
  ·exact h.sp y r
  ·rw [uD.1 r];have hev:=(h.ro.ev e he).1;unfold gG at hp;split at hp
   ·cases hp
   ·rename_i hn;have hz:(bH e).store=true:=by
     cases hb:(bH e).store with
     |true=>rfl
     |false=>exact absurd (.inl hb) hn
    have hk:e.halt=0∧kindOf e.i.op=4:=by
     unfold bH at hz;by_cases q1:e.halt≠0
     ·rw[if_pos q1]at hz;exact absurd (show false=true from hz) (by simp)
     ·by_cases q2:kindOf e.i.op=4
      ·exact⟨Classical.not_not.1 q1,q2⟩
      ·rw[if_neg q1,if_neg q2]at hz
       repeat' split at hz
       all_goals exact absurd (show false=true from hz) (by simp)
    have ht:bH e=⟨e.pc,up4 e.pc,wr e.i,e.value,e.addr,(dE e.i.op:Nat),true,0,0⟩:=by
     unfold bH;rw[if_neg (λ z=>z hk.1),if_pos hk.2]
    rw[ht]at hp hn;injection hp with hp;have hr:=hev.kn (hev.k4 hk.2 h3 hk.1) (.inr hk.2);have hsz:dE e.i.op=1∨dE e.i.op=2∨dE e.i.op=4:=by
     have hn: ¬ (((dE e.i.op:Nat):Int)≠1∧((dE e.i.op:Nat):Int)≠2∧((dE e.i.op:Nat):Int)≠4):=λ z=>hn (.inr (.inr z));omega
    have hb:p.data.size=dE e.i.op:=by rw[←hp];exact RB _ _ hsz
    rw[show p.addr=e.addr by rw[←hp],hb];exact hr
 ·exact h.sp
theorem RC{q:Int}{c:Co}(h:RcCor q c){e:Ent}(he:e∈c.rob)(h3:e.is=3):RcCor q (xL c e):=by
 have k:=Vi h he h3;exact⟨k.ro.sub (List.drop_sublist _ _),k.lo,k.nx,k.da,k.wo,k.sp,k.pg⟩
theorem RD{q:Int}{c:Co}(h:RcCor q c){e:Ent}(he:e∈c.rob)(h3:e.is=3):RcCor q (Et c e):=by
 have k:=(Vi h he h3).bring (bH e).addr;rw[←pB]at k;exact⟨RoLst.sub (l:=c.rob) k.ro (List.drop_sublist _ _),k.lo,k.nx,k.da,k.wo,k.sp,k.pg⟩
theorem Bn{q:Int}:∀ (n:Nat) (c:Co),RcCor q c→RcCor q (eB n c)
 |0,_,h=>h
 | n +1,c,h=>by
  by_cases hz:c.halt≠0∨c.rob.length=0
  ·rw[jE hz];exact h
  ·have hx:c.rob[0]?=some (c.rob[0]'omT):=aA omT;have hm:=aB hx;rw[fV omT (λ r=>hz (.inl r)) hx];split
   ·exact h
   ·rename_i h3;have h3:=Classical.not_not.1 h3;split
    ·exact⟨RoLst.nil,h.lo,h.nx,h.da,h.wo,h.sp,h.pg⟩
    ·split
     ·exact h
     ·rw[gK];by_cases hk:kindOf (c.rob[0]'omT).i.op=3
      ·rw[zX hk];exact Bn n _ (RD h hm h3)
      ·rw[tY hk];exact Bn n _ (RC h hm h3)
theorem RcCor.setE{q:Int}{c:Co}(h:RcCor q c){i:Nat}{x e:Ent}(hx:c.rob[i]?=some x)(he:EvEnt c.mem.size e)(hn:e.no=x.no):RcCor q (setE c i e):=h.rob (h.ro.set hx he hn) rfl rfl rfl rfl rfl rfl rfl
theorem Xm(e:Ent)(M:Int)(a:Nat)(h0:e.is=0):(qY e M a).known=true→(qY e M a).is=0∨e.known=false∧(qY e M a).is=0:=by
 intro hk;unfold qY at hk⊢;split
 ·exact .inl h0
 ·rename_i h1;rw[if_neg h1]at hk;split
  ·exact .inl h0
  ·rename_i h2;rw[if_neg h2]at hk;exact absurd (show e.known=true from hk) (λ z=>h1 (.inr (.inr z)))
theorem Xn{q:Int}{c:Co}(h:RcCor q c){i:Nat}{x:Ent}(hx:c.rob[i]?=some x)(hk3:kindOf x.i.op=3)(hi:x.known=true→x.is=0):RcCor q (kL c i):=by
 have hev:=(h.ro.ev x (aB hx)).1;unfold kL;rw[hx];dsimp only;split
 ·exact h
 ·rename_i hkn
  have hk:x.known=true:=by cases hq:x.known with
   |true=>rfl
   |false=>exact absurd hq hkn
  have hw:=hev.wait hk3 hk (.inl (hi hk))
  repeat' split
  ·exact h.setE hx (hev.take _) (LJ _ _)
  ·exact h
  ·exact h.setE hx (hev.take _) (LJ _ _)
  ·exact h.setE hx hw rfl
  ·exact RcCor.setE (c:=iT c 1 (lineOf x.addr) mR) ⟨h.ro,h.lo,h.nx,h.da,h.wo,h.sp,h.pg⟩ hx hw rfl
  ·exact h
theorem Zc{l:List Ent}{i:Nat}{x e:Ent}(hx:l[i]?=some x):(l.set i e)[i]?=some e:=aR (DN.1 hx).1
theorem Uj{q:Int}{c:Co}{n:Nat}(hm:c.okM n)(h:RcCor q c){i:Nat}(hi:∀ e,c.rob[i]?=some e→e.is=0):RcCor q (fH c i):=by
 have hb:=At hm.ok.robo hm.ok.r i;unfold fH
 cases hx:c.rob[i]? with
 |none=>exact h
 | some e=>
  have hev:=(h.ro.ev e (aB hx)).1;have h0:=hi e hx;dsimp only;split
  ·exact h.setE hx (hev.addr _) (RG _ _ _)
  ·split
   ·rename_i k3;have hk:kindOf (qY e c.mem.size (lQ c.rob c.r i).1).i.op=3:=by
     unfold qY
     (repeat' split)<;>exact k3
    exact Xn (h.setE hx (hev.addr _) (RG _ _ _)) (Zc hx) hk (λ z=>(Xm e _ _ h0 z).elim id (·.2))
   ·exact h.setE hx (hev.start hb.1 hb.2) (Um _ _ _)
theorem set_other{l:List Ent}{i j:Nat}{e:Ent}(h:i≠j):(l.set i e)[j]?=l[j]? :=gQ h
theorem Oq(c:Co){i j:Nat}(h:i≠j):(kL c i).rob[j]?=c.rob[j]? :=by
 unfold kL;split
 ·rfl
 ·(try dsimp only)
  repeat' split
  all_goals first|rfl|exact set_other h
theorem LI(c:Co){i j:Nat}(h:i≠j):(fH c i).rob[j]?=c.rob[j]? :=by
 unfold fH;split
 ·rfl
 ·(try dsimp only)
  split
  ·exact set_other h
  ·split
   ·rw[Oq _ h];exact set_other h
   ·exact set_other h
theorem Ko{q:Int}:∀ (p:List Nat) (c:Co) (n:Nat),c.okM n→n+p.length≤890000→RcCor q c→p.Pairwise (· < ·)→(∀ i∈p,∀ e,c.rob[i]?=some e→e.is=0)→RcCor q (p.foldl fH c)
 |[],_,_,_,_,h,_,_=>h
 |i::p,c,n,hm,hb,h,hp,hi=>by
  have hl:(i::p).length=p.length+1:=rfl;rw[hl]at hb;obtain⟨h1,h2⟩:=List.pairwise_cons.1 hp;refine Ko p _ (n+1) (vO hm omT i).1 omT (Uj hm h (hi i (bQ ..))) h2 (λ j hj e he=>?_);have:=h1 j hj;rw[LI c omT]at he;exact hi j (bX _ hj) e he
theorem GE{width:Int}{busy:Bool}{kinds:List Int}{can:List Bool}:∀ k,(∀ i∈(iE width busy kinds can k).out,i<k∧can.getD i false=true)∧(iE width busy kinds can k).out.Pairwise (· < ·)
 |0=>⟨λ i hi=>(List.not_mem_nil hi).elim,.nil⟩
 | k + 1=>by
  have ih:=GE (width:=width) (busy:=busy) (kinds:=kinds) (can:=can) k;have keep:(∀ i∈(iE width busy kinds can k).out,i<k+1∧can.getD i false=true)∧(iE width busy kinds can k).out.Pairwise (· < ·):=⟨λ i hi=>⟨by have:=(ih.1 i hi).1;omega,(ih.1 i hi).2⟩,ih.2⟩;show (∀ i∈(Ds width kinds (iE width busy kinds can k) k (can.getD k false)).out,_)∧(Ds width kinds (iE width busy kinds can k) k (can.getD k false)).out.Pairwise _;unfold Ds;split
  ·exact keep
  ·split
   ·exact keep
   ·rename_i hr;split
    ·exact keep
    ·refine⟨λ i hi=>?_,?_⟩
     ·rcases al_List_mem_append.1 hi with r|r
      ·exact keep.1 i r
      ·rw[uD.1 r]
       exact⟨by omega,by cases hc:can.getD k false with
        |true=>rfl
        |false=>exact absurd hc hr⟩
     ·show ((iE width busy kinds can k).out++[k]).Pairwise _;rw[List.pairwise_append];refine⟨ih.2,List.pairwise_singleton _ _,λ a ha b hb=>?_⟩;rw[uD.1 hb];exact (ih.1 a ha).1
theorem Zd{c:Co}{i:Nat}{e:Ent}(h:Cd c i=true)(he:c.rob[i]?=some e):e.is=0:=by
 unfold Cd at h;rw[he]at h;dsimp only at h;split at h
 ·cases h
 ·rename_i q;exact Classical.not_not.1 q
theorem RE{q:Int}{c:Co}{n:Nat}(hm:c.okM n)(hb:n+2≤890000)(h:RcCor q c):RcCor q (fF c):=by
 by_cases hh:c.halt≠0
 ·rw[show fF c=c from if_pos hh];exact h
 ·have hw:=nE hm.cf;have hl:=PD (width:=c.conf.width) (busy:=c.rob.any Dp) (kinds:=Af c) (can:=zB c) omT (zB c).length;have hf:=GE (width:=c.conf.width) (busy:=c.rob.any Dp) (kinds:=Af c) (can:=zB c) (zB c).length;rw[show fF c=(iE c.conf.width (c.rob.any Dp) (Af c) (zB c) (zB c).length).out.foldl fH c from if_neg hh];refine Ko _ c n hm omT h hf.2 (λ i hi e he=>?_);have hc:=(hf.1 i hi).2;have hlt:=(DN.1 he).1;refine Zd (i:=i) ?_ he;unfold zB at hc;rw[bN,bD,gD hlt]at hc;exact hc
theorem Uk{M:Int}(no:Int){f:Ft}{prog:List Nat}(hp:∀ x∈prog,x≤4294967295):EvEnt M (qT no f prog)∧(qT no f prog).no=no:=by
 have hx:fetchW prog f.pc<4294967296:=BX (HA hp f.pc);have n4: ¬ kindOf 0=4:=by decide
 unfold qT;split
 ·exact⟨⟨(fJ _).2 ⟨by simp,λ q=>absurd q (by simp),λ _=>rfl,λ q=>absurd q (by simp),λ _=>.inl rfl,.inr (.inl rfl)⟩,λ q=>absurd (show false=true from q) (by simp),λ q=>absurd (show kindOf 0=4 from q) n4,λ q=>absurd (show kindOf 0=4 from q) n4⟩,rfl⟩
 ·split
  ·exact⟨⟨(fJ _).2 ⟨by simp,λ q=>absurd q (by simp),λ _=>rfl,λ q=>absurd q (by simp),λ _=>.inl rfl,.inr (.inr rfl)⟩,λ q=>absurd (show false=true from q) (by simp),λ q=>absurd (show kindOf 0=4 from q) n4,λ q=>absurd (show kindOf 0=4 from q) n4⟩,rfl⟩
  ·rename_i ho;have hs:RR (fP (fetchW prog f.pc))=true:=(Hz _).2 (WK _ ho hx);split
   ·exact⟨⟨(fJ _).2 ⟨by simp,λ q=>absurd q (by simp),λ _=>rfl,λ q=>absurd q (by simp),λ _=>.inl rfl,.inl hs⟩,λ q=>absurd (show false=true from q) (by simp),λ _=>.inr rfl,λ _ _ q=>absurd (show (6:Int)=0 from q) (by simp)⟩,rfl⟩
   ·split
    ·exact⟨⟨(fJ _).2 ⟨by simp,λ q=>absurd q (by simp),λ _=>rfl,λ q=>absurd q (by simp),λ _=>.inl rfl,.inl hs⟩,λ q=>absurd (show false=true from q) (by simp),λ _=>.inr rfl,λ _ _ q=>absurd (show (7:Int)=0 from q) (by simp)⟩,rfl⟩
    ·exact⟨⟨(fJ _).2 ⟨(show (0:Int)≤0∧(0:Int)≤3 from ⟨by simp,by simp⟩),λ q=>absurd (show (0:Int)=1 from q) (by simp),λ _=>rfl,λ q=>absurd (show (0:Int)=2 from q) (by simp),λ q=>absurd rfl q,.inl hs⟩,λ q=>absurd (show false=true from q) (by simp),λ _=>.inl rfl,λ _ q=>absurd (show (0:Int)=3 from q) (by simp)⟩,rfl⟩
theorem GF:∀ (n:Nat) (q:Int) (c:Co),(∀ x∈c.prog,x≤4294967295)→q+n≤9000000→RcCor q c→RcCor (q+n) (jM n c)
 |0,q,c,_,_,h=>by rw[show q+((0:Nat):Int)=q by omega];exact h
 | n+1,q,c,hp,hb,h=>by
  by_cases h0:(c.rob.length:Int)≥c.conf.rob∨c.fetched.length=0
  ·rw[rI h0];exact⟨h.ro,h.lo,by have:=h.nx;omega,h.da,h.wo,h.sp,h.pg⟩
  ·have hx:c.fetched[0]?=some (c.fetched[0]'omT):=aA omT;have e:=uU (n:=n+1) (k:=0) omT (λ r=>h0 (.inl r)) hx;rw[show n+1 - (0+1)=n by omega,show n+1 - 0=n+1 by omega]at e;rw[←e,show q+((n+1:Nat):Int)=(q+1)+(n:Nat) by omega];have hw:wrap64 (c.next+1)=c.next+1:=Ot (by have:=h.lo;omega) (by have:=h.nx;omega);have he:=Uk (M:=c.mem.size) c.next (f:=c.fetched[0]'omT) hp;refine GF n (q+1) _ hp omT ⟨?_,?_,?_,h.da,h.wo,h.sp,h.pg⟩
   ·show RoLst c.mem.size (wrap64 (c.next+1)) (c.rob++[_]);rw[hw];exact h.ro.push he.1 he.2
   ·show 0≤wrap64 (c.next+1);rw[hw];have:=h.lo;omega
   ·show wrap64 (c.next+1)≤_;rw[hw];have:=h.nx;omega
theorem Fd{q:Int}:∀ (n:Nat) (c:Co),RcCor q c→RcCor q (eG n c)
 |0,_,h=>h
 | n +1,c,h=>by
  by_cases h0:c.stop=true∨(c.fetched.length:Int)≥c.conf.queue
  ·rw[pV h0];exact h
  ·by_cases hf:(fetchP c.prog c.fetch).isSome=false
   ·rw[rJ omT h0 hf];exact⟨h.ro,h.lo,h.nx,h.da,h.wo,h.sp,h.pg⟩
   ·by_cases hw:(bF c.words (lineOf c.fetch)).2.isSome=false
    ·rw[nQ omT h0 hf hw];split
     ·exact⟨h.ro,h.lo,h.nx,h.da,h.wo,h.sp,h.pg⟩
     ·exact h
    ·have e:=tG (n:=n+1) (k:=0) omT h0 hf hw;rw[show n+1 - (0+1)=n by omega,show n+1 - 0=n+1 by omega]at e;rw[←e];refine Fd n _ ?_;have ht:=Fc c.words (lineOf c.fetch);have hT:RcCor q (gY c):=⟨h.ro,h.lo,h.nx,h.da,by show ((oT _ _).sets.length:Int)=_∧(oT _ _).ways=_;rw[ht.1,ht.2];exact h.wo,h.sp,h.pg⟩;have hb:∀ w,RcCor q (cQ (gY c) w).1:=by
      intro w;unfold cQ
      repeat' split
      all_goals exact⟨hT.ro,hT.lo,hT.nx,hT.da,hT.wo,hT.sp,hT.pg⟩
     have k:=hb (fetchW c.prog c.fetch);exact⟨k.ro,k.lo,k.nx,k.da,k.wo,k.sp,k.pg⟩
theorem RF{q:Int}{c:Co}(h:RcCor q c):RcCor q (pX c):=by
 have h1:RcCor q (aU c):=by
  refine⟨h.ro,h.lo,h.nx,?_,h.wo,?_,h.pg⟩
  ·show ((nU c.stores c.data).2.1.sets.length:Int)=_∧(nU c.stores c.data).2.1.ways=_;unfold nU;split
   ·exact h.da
   ·rename_i p l _;have:=LF c.data p.addr p.data;split
    ·rw[this.1,this.2];exact h.da
    ·exact h.da
  ·show ∀ p∈(nU c.stores c.data).1,_;unfold nU;split
   ·exact h.sp
   ·rename_i p l hs;split
    ·exact λ y hy=>h.sp y (by rw[hs];exact bX _ hy)
    ·exact h.sp
 have hA:∀ {d:Co},RcCor q d→RcCor q (mV d):=λ {d} k=>by
  unfold mV;split
  ·exact k
  ·split
   ·exact⟨k.ro,k.lo,k.nx,k.da,k.wo,k.sp,k.pg⟩
   ·exact k
 have hB:∀ {d:Co},RcCor q d→RcCor q (kJ d):=λ {d} k=>by
  unfold kJ;split
  ·exact k
  ·unfold mI;split
   ·split
    ·rename_i w _ _;have:=LG d.data w.line;exact⟨k.ro,k.lo,k.nx,by show ((qN _ _).sets.length:Int)=_∧(qN _ _).ways=_;rw[this.1,this.2];exact k.da,k.wo,k.sp,k.pg⟩
    ·exact k
   ·exact k
 rw[jJ];split
 ·exact hB (hA h1)
 ·exact hB h1
theorem aa0{f:Cf}(h0:0≤f.rob∧0≤f.queue){c:Co}(h:Bd f c.retired.length c):Bd f (lI c).retired.length (lI c)∧c.retired.length≤(lI c).retired.length∧(lI c).retired.length≤c.retired.length+f.width.toNat:=by
 obtain⟨b,h1,h2,h3⟩:=Xr h0 h;have:=h3.ret;subst this;exact⟨h3,h1,h2⟩
theorem RcCor.mono{q r:Int}{c:Co}(h:RcCor q c)(hq:q≤r):RcCor r c:=⟨h.ro,h.lo,by have:=h.nx;omega,h.da,h.wo,h.sp,h.pg⟩
theorem Xl{q:Int}{c:Co}{n:Nat}(hm:c.okM n)(hb:n+20≤890000)(hq:q+2≤9000000)(h:RcCor q c):RcCor (q+2) (Qm c):=by
 have hk:=Jk hm hb;have h0:RcCor q (s0 c):=⟨h.ro,h.lo,h.nx,h.da,h.wo,h.sp,h.pg⟩;have h3:RcCor q (s3 c):=Bn _ _ (Ui (Uh h0));have h4:RcCor q (s4 c):=RE hk.k3 omT h3;have h5:RcCor (q+2) (s5 c):=by
  show RcCor (q+2) (iP (s4 c));have hw:=nE hk.k4.cf;unfold iP;split
  ·exact h4.mono omT
  ·exact (GF _ q _ hk.k4.ok.progo omT h4).mono omT
 have h6:RcCor (q+2) (s6 c):=by
  show RcCor (q+2) (dY (s5 c));unfold dY;split
  ·exact h5
  ·exact Fd _ _ h5
 exact RF h6
theorem Fb{x:ByteArray}(h:∃ n,x.size=upS n):lK x=x:=by
 obtain⟨n,hn⟩:=h;have hu:x.size=16∨x.size=32∨x.size=64∨x.size=128∨x.size=256:=by rw[hn];unfold upS;(repeat' split)<;>omega
 unfold lK;rw[show min x.size 256=x.size by omega,show upS x.size - x.size=0 by rcases hu with e|e|e|e|e<;>rw[e]<;>rfl,List.replicate_zero,dX,show x.extract 0 x.size=x by simp]
 try (cases x;simp)
theorem Ry{f:Cf}{a n:Nat}{q:Int}{c:Co}(hm:c.okM n)(hB:Bd f a c)(h:RcCor q c)(hs:∃ n,c.mem.size=upS n):gH c=true:=by
 have hc:=nE hm.cf;have b1:=hB.rob;have b2:=hB.fet;have b3:=hB.sto;rw[←hB.conf]at b1 b2 b3;unfold gH;simp only[aK,aZ,iK];refine⟨⟨⟨⟨⟨⟨⟨⟨⟨⟨⟨hm.cf,h.pg⟩,?_⟩,h.ro.right omT⟩,b1⟩,λ e he=>(h.ro.ev e he).2⟩,?_⟩,?_⟩,hm.guess⟩,b2⟩,b3⟩,h.sp⟩
 ·rw[Fb hs];simp
 ·unfold wL;simp only[aK,aZ];exact⟨⟨hm.data,h.da.1⟩,h.da.2⟩
 ·unfold wL;simp only[aK,aZ];exact⟨⟨hm.words,h.wo.1⟩,h.wo.2⟩
structure GdRun(X:Co)(k:Nat):Prop where
 ok:(jN X k).ok (10 * k)
 bd:Bd X.conf (jN X k).retired.length (jN X k)
 rc:RcCor (1+2 * k) (jN X k)
 ms:∃ n,(jN X k).mem.size=upS n
 rt:gH (jN X k)=true
theorem GdRun.next{X:Co}{k:Nat}(h:GdRun X k)(hk:k≤3000)(h0:0≤X.conf.rob∧0≤X.conf.queue):GdRun X (k+1):=by
 have hm:=BN h.ok omT h.rt;have hs:lI (jN X k)=Qm (jN X k):=if_pos h.rt;have hB:=(aa0 h0 h.bd).1;have hR:=Xl hm omT omT h.rc;have hM:∃ n,(jN X (k+1)).mem.size=upS n:=by
  obtain⟨n,hn⟩:=h.ms;exact⟨n,(Xj h.rt).2.2.trans hn⟩
 have hk7:=(Jk hm omT).k7;have hR2:RcCor (1+2 * ((k+1:Nat):Int)) (jN X (k+1)):=by
  show RcCor _ (lI (jN X k));rw[hs,show 1+2 * ((k+1:Nat):Int)=1+2 * (k:Int)+2 by omega];exact hR
 have hk8:(jN X (k+1)).okM (10 * k+10):=by show (lI (jN X k)).okM _;rw[hs];exact hk7
 exact⟨by rw[show 10 * (k+1)=10 * k+10 by omega];exact hk8.ok,hB,hR2,hM,Ry hk8 hB hR2 hM⟩
theorem Rz(cf:Cf)(prog:List Nat)(m:ByteArray)(h0:(eQ cf prog m).ok 0):gH (eQ cf prog m)=true:=by
 have hc:∀ n lo hi:Int,lo≤hi→lo≤aP n lo hi∧aP n lo hi≤hi:=λ n lo hi h=>by unfold aP;(repeat' split)<;>omega
 have hcf:tK (bC cf)=true:=by
  unfold tK inI bC;have h1:=hc cf.mode 0 2 (by decide);have h2:=hc cf.width 1 2 (by decide);have h3:=hc cf.rob 2 8 (by decide);have h4:=hc cf.queue 1 4 (by decide);have h5:=hc cf.stores 1 4 (by decide);have h6:=hc cf.slots 2 6 (by decide);have h7:=hc cf.sets 1 4 (by decide);have h8:=hc cf.ways 1 2 (by decide);have h9:(1≤(if aP cf.sets 1 4=3 then 2 else aP cf.sets 1 4))∧(if aP cf.sets 1 4=3 then 2 else aP cf.sets 1 4)≤4∧(if aP cf.sets 1 4=3 then 2 else aP cf.sets 1 4)≠3:=by split<;>omega
  simp only[aK,aZ,iK,ge_iff_le,ne_eq];refine⟨⟨⟨⟨⟨⟨⟨⟨⟨⟨⟨λ x hx=>?_,h1⟩,h2⟩,h3⟩,h4⟩,h5⟩,h6⟩,⟨h9.1,h9.2.1⟩⟩,h9.2.2⟩,h8⟩,?_⟩,?_⟩
  ·obtain⟨y,_,rfl⟩:=sS.1 hx;exact hc y 1 8 (by decide)
  ·rw[aH,aL];omega
  ·rw[aL];omega
 have hcl:=nE hcf;have hCa:∀ s w:Int,(s=1∨s=2∨s=4)→(w=1∨w=2)→wL (vZ s w) { (bC cf)with sets:=s,ways:=w}=true:=by
  intro s w hs hw;rcases hs with rfl|rfl|rfl<;>rcases hw with rfl|rfl<;>rfl
 have hsets:(bC cf).sets=1∨(bC cf).sets=2∨(bC cf).sets=4:=by
  have:=hc cf.sets 1 4 (by decide);show (if aP cf.sets 1 4=3 then 2 else aP cf.sets 1 4)=1∨(if aP cf.sets 1 4=3 then 2 else aP cf.sets 1 4)=2∨(if aP cf.sets 1 4=3 then 2 else aP cf.sets 1 4)=4;split<;>omega
 have hways:(bC cf).ways=1∨(bC cf).ways=2:=by
  have:=hc cf.ways 1 2 (by decide);show aP cf.ways 1 2=1∨aP cf.ways 1 2=2;omega
 have hf:=hCa _ _ hsets hways;unfold gH;have hm:(eQ cf prog m).mem=lK m:=rfl;rw[show lK (eQ cf prog m).mem=(eQ cf prog m).mem from Fb ⟨_,Bj m⟩];simp only[aK,aZ,iK];refine⟨⟨⟨⟨⟨⟨⟨⟨⟨⟨⟨hcf,?_⟩,by simp⟩,rfl⟩,?_⟩,λ e he=>(List.not_mem_nil he).elim⟩,hf⟩,hf⟩,rfl⟩,?_⟩,?_⟩,λ e he=>(List.not_mem_nil he).elim⟩
 ·show (prog.take (min prog.length 64)).length≤64;rw[aL];omega
 ·show ((0:Nat):Int)≤(bC cf).rob;omega
 ·show ((0:Nat):Int)≤(bC cf).queue;omega
 ·show ((0:Nat):Int)≤(bC cf).stores;omega
set_option maxRecDepth 100000
set_option maxHeartbeats 4000000
theorem Ox(s:List (List Wy))(hl:s.length≤9223372036854775807)(ho:∀ x∈s,x.length≤9223372036854775807∧∀ y∈x,y.ok):bV C0 45 [.sl 1 (s.map bA) false,.sl 1 (s.map bA) false] (vB true):=by
 refine dc1 (bV.intro c1Ok Tryz.func45 rfl rfl (by kernel_rfl) rfl ?_);refine cSR<|oR 1 rfl<|rE 1<|bI<|cSR<|oR 1 rfl<|rW (vN s.length) rfl (bJ bA s)<|oR 1 rfl<|rW (vN s.length) rfl (bJ bA s)<|rW (vB (s.length != s.length)) rfl (okB (neN _ _))<|rE 6<|aQ rfl (λ h1=>by simp[c2o,c2a,tM]at h1) (λ _=>?_);refine aY<|bI<|cSR<|oR 1 rfl<|rW (vN s.length) rfl (bJ bA s)<|oR 1 rfl<|rE 9<|bE<|jG (κ:=Nat) (λ k=>⟨slotsF [(0,.sl 1 (s.map bA) false),(1,.sl 1 (s.map bA) false),(11,vB (s.length != s.length)),(13,vN s.length),(14,vN k)],heapF [],9⟩) (λ k=>k≤s.length) (λ k=>s.length - k) 0 (λ s=>s) (Weak.of_lists (λ s=>s) wT trivial rfl) (aE _) ?_;intro k hk;have hkn:k≤s.length:=hk;have hkB:k≤9223372036854775807:=by omega
 refine cSR<|rW (vB (decide (k<s.length))) rfl (okB (ltN _ _))<|rE 10<|bI<|aQ rfl (λ h2=>?_) (λ h2=>?_)
 ·have h2p:=of_decide_eq_true h2;refine aY<|bI<|bE<|cSR<|oR 2 rfl<|rE 12<|bI<|cSR<|oR 2 rfl ?_;obtain⟨x,hx⟩:∃ y_,s[k]?=some y_:=⟨_,aA omT⟩;have hxo:=ho x (aB hx);refine rIx (bA x) (.dp 1 0 (bA x)) rfl rfl (fM hx) rfl<|oR 1 rfl<|rW (vN x.length) rfl (bJ wyL x)<|oR 2 rfl<|rIx (bA x) (.dp 1 0 (bA x)) rfl rfl (fM hx) rfl<|oR 1 rfl<|rW (vN x.length) rfl (bJ wyL x)<|rW (vB (x.length != x.length)) rfl (okB (neN _ _))<|rE 23<|aQ rfl (λ h3=>by simp[c2o,c2a,tM]at h3) (λ _=>?_);refine aY<|cSR<|oR 2 rfl<|rIx (bA x) (.dp 1 0 (bA x)) rfl rfl (fM hx) rfl<|oR 1 rfl<|rW (vN x.length) rfl (bJ wyL x)<|oR 1 rfl<|rE 29<|bE<|jG (κ:=Nat) (λ j=>⟨slotsF [(0,.sl 1 (s.map bA) false),(1,.sl 1 (s.map bA) false),(11,vB (s.length != s.length)),(13,vN s.length),(14,vN k),(15,vB (decide (k<s.length))),(16,vN k),(5,vN k),(17,.sl 1 (s.map bA) false),(18,vN k),(19,.dp 1 0 (bA x)),(20,.sl 3 (x.map wyL) false),(21,vN x.length),(22,.sl 1 (s.map bA) false),(23,vN k),(24,.dp 1 0 (bA x)),(25,.sl 3 (x.map wyL) false),(26,vN x.length),(27,vB (x.length != x.length)),(28,.sl 1 (s.map bA) false),(29,vN k),(30,.dp 1 0 (bA x)),(31,.sl 3 (x.map wyL) false),(32,vN x.length),(33,vN j)],heapF [],29⟩) (λ j=>j≤x.length) (λ j=>x.length - j) 0 (λ s=>s) (Weak.of_lists (λ s=>s) wT trivial rfl) (aE _) ?_;intro j hj;have hjn:j≤x.length:=hj;have hjB:j≤9223372036854775807:=by have:=hxo.1;omega
  have hxl:=hxo.1;refine cSR<|rW (vB (decide (j<x.length))) rfl (okB (ltN _ _))<|rE 30<|bI<|aQ rfl (λ h4=>?_) (λ h4=>?_)
  ·have h4p:=of_decide_eq_true h4;refine aY<|bI<|bE<|cSR<|oR 2 rfl<|rE 32<|cSR<|oR 2 rfl<|rIx (bA x) (.dp 1 0 (bA x)) rfl rfl (fM hx) rfl<|oR 2 rfl ?_;obtain⟨x1,hx1⟩:∃ y_,x[j]?=some y_:=⟨_,aA omT⟩;have hx1o:=(hxo).2 x1 (aB hx1);refine rIx (wyL x1) (.dp 3 0 (wyL x1)) rfl rfl (fM hx1) rfl<|oR 3 rfl<|rIx (bA x) (.dp 1 0 (bA x)) rfl rfl (fM hx) rfl<|oR 2 rfl<|rIx (wyL x1) (.dp 3 0 (wyL x1)) rfl rfl (fM hx1) rfl<|oR 1 rfl<|rV (vB (!((((x1.line:Nat):Int)==((x1.line:Nat):Int))&&((x1.dirty==x1.dirty)&&((x1.data==x1.data)&&true))))) rfl<|rE 47<|aQ rfl (λ h5=>by simp[c2o,c2a,tM]at h5) (λ _=>?_);refine aY<|cRg ?_;have b1:j+1≤9223372036854775807:=by omega
   refine rW (vN (j+1)) rfl (okI (bL (show j+1≤9223372036854775807 by omega) rfl))<|oR 1 rfl<|rE 49 ?_;refine⟨j+1,λ s=>s,Weak.of_lists _ wT trivial rfl,by omega,by show x.length - (j+1)<x.length - j;omega⟩
  ·have h4p:=aD h4;refine dR<|cRg ?_;have b2:k+1≤9223372036854775807:=by omega
   refine rW (vN (k+1)) rfl (okI (bL (show k+1≤9223372036854775807 by omega) rfl))<|oR 1 rfl<|rE 32 ?_;refine⟨k+1,λ s=>s,Weak.of_lists _ wT trivial rfl,by omega,by show s.length - (k+1)<s.length - k;omega⟩
 ·have h2p:=aD h2;refine dR<|cSR<|oR 1 rfl<|rE 11<|cM ?_;exact fT rfl (dH (by simp[c2o,c2a,tM]))
theorem Nj(c:Ca)(hok:c.ok):bV C0 20 [.agg (caL c false),.agg (caL c false)] (vB true):=by
 refine dc1 (bV.intro c1Ok Tryz.func20 rfl rfl (by kernel_rfl) rfl ?_);refine cSR<|rAl 0 rfl rfl<|rAl 1 rfl rfl<|oR 1 rfl<|rE 3<|cSR<|oR 4 rfl<|rV (vB (c.ways==c.ways)) rfl<|oR 1 rfl<|gN rfl<|gS rfl id<|gN rfl<|gS rfl id<|gT (x:=vB true) (g:=c.ways==c.ways) rfl rfl rfl rfl hsT rfl rfl rfl (.inl rfl) rfl (λ hg=>Ox c.sets hok.sets hok.set)<|cL rfl rfl rfl (λ h=>h)<|oR 1 rfl<|rE 16<|cM ?_;exact fT rfl (dH (by simp[c2o,c2a,tM]))
theorem Us(c:Cf)(hok:c.okW):bV C0 19 [.agg (cfL c false false),.agg (cfL c false false)] (vB true):=by
 refine dc1 (bV.intro c1Ok Tryz.func19 rfl rfl (by kernel_rfl) rfl ?_);refine cSR<|rAl 0 rfl rfl<|rAl 1 rfl rfl<|oR 1 rfl<|rE 3<|bI<|cSR<|oR 4 rfl<|rV (vB (c.mode != c.mode)) rfl<|oR 1 rfl<|gN rfl<|gS rfl id<|gN rfl<|gS rfl id<|gBS (x:=vB (c.width != c.width)) rfl hsT rfl<|cL rfl rfl rfl (by simp)<|oR 1 rfl<|gN rfl<|gS rfl id<|gN rfl<|gS rfl id<|gBS (x:=vB (c.rob != c.rob)) rfl hsT rfl<|cL rfl rfl rfl (by simp)<|oR 1 rfl<|gN rfl<|gS rfl id<|gN rfl<|gS rfl id<|gBS (x:=vB (c.queue != c.queue)) rfl hsT rfl<|cL rfl rfl rfl (by simp)<|oR 1 rfl<|gN rfl<|gS rfl id<|gN rfl<|gS rfl id<|gBS (x:=vB (c.stores != c.stores)) rfl hsT rfl<|cL rfl rfl rfl (by simp)<|oR 1 rfl<|gN rfl<|gS rfl id<|gN rfl<|gS rfl id<|gBS (x:=vB (c.slots != c.slots)) rfl hsT rfl<|cL rfl rfl rfl (by simp)<|oR 1 rfl<|gN rfl<|gS rfl id<|gN rfl<|gS rfl id<|gBS (x:=vB (c.sets != c.sets)) rfl hsT rfl<|cL rfl rfl rfl (by simp)<|oR 1 rfl<|gN rfl<|gS rfl id<|gN rfl<|gS rfl id<|gBS (x:=vB (c.ways != c.ways)) rfl hsT rfl<|cL rfl rfl rfl (by simp)<|oR 1 rfl<|gN rfl<|gS rfl id<|gN rfl<|gS rfl id<|gBS (x:=vB (!(c.tables==c.tables))) rfl hsT rfl<|cL rfl rfl rfl (by simp)<|oR 1 rfl<|gN rfl<|gS rfl id<|gBS (x:=vN c.lat.length) rfl id (bJ fD c.lat)<|gN rfl<|gS rfl id<|gBS (x:=vN c.lat.length) rfl id (bJ fD c.lat)<|gBS (x:=vB (c.lat.length != c.lat.length)) rfl hsT (okB (neN _ _))<|cL rfl rfl rfl (by simp)<|oR 1 rfl<|gN rfl<|gS rfl id<|gBS (x:=vN c.tape.length) rfl id (bJ dI c.tape)<|gN rfl<|gS rfl id<|gBS (x:=vN c.tape.length) rfl id (bJ dI c.tape)<|gBS (x:=vB (c.tape.length != c.tape.length)) rfl hsT (okB (neN _ _))<|cL rfl rfl rfl (by simp)<|rE 82<|aQ rfl (λ h1=>by simp[c2o,c2a,tM]at h1) (λ _=>?_);refine aY<|bI<|cSR<|oR 2 rfl<|rW (vN c.lat.length) rfl (bJ fD c.lat)<|oR 1 rfl<|rE 86<|bE<|jG (κ:=Nat) (λ k=>⟨slotsF [(2,.ptr 0 0),(3,.ptr 1 0),(85,vB (cJ (cJ (cJ (cJ (cJ (cJ (cJ (cJ (cJ (cJ (c.mode != c.mode) true (c.width != c.width)) true (c.rob != c.rob)) true (c.queue != c.queue)) true (c.stores != c.stores)) true (c.slots != c.slots)) true (c.sets != c.sets)) true (c.ways != c.ways)) true (!(c.tables==c.tables))) true (c.lat.length != c.lat.length)) true (c.tape.length != c.tape.length))),(88,vN c.lat.length),(89,vN k)],heapF [(0,.box [vI c.mode,vI c.width,vI c.rob,vI c.queue,vI c.stores,vI c.slots,vI c.sets,vI c.ways,.sl 1 (c.lat.map fD) false,vB c.tables,.sl 1 (c.tape.map dI) false]),(1,.box [vI c.mode,vI c.width,vI c.rob,vI c.queue,vI c.stores,vI c.slots,vI c.sets,vI c.ways,.sl 1 (c.lat.map fD) false,vB c.tables,.sl 1 (c.tape.map dI) false])],86⟩) (λ k=>k≤c.lat.length) (λ k=>c.lat.length - k) 0 (λ s=>s) (Weak.of_lists (λ s=>s) wT wH rfl) (aE _) ?_;intro k hk;have hkn:k≤c.lat.length:=hk;have hkB:k≤9223372036854775807:=by have:=hok.lat;omega
 have hlat:=hok.lat;refine cSR<|rW (vB (decide (k<c.lat.length))) rfl (okB (ltN _ _))<|rE 87<|bI<|aQ rfl (λ h2=>?_) (λ h2=>?_)
 ·have h2p:=of_decide_eq_true h2;refine aY<|bI<|bE<|cSR<|oR 2 rfl<|rE 89<|cSR<|oR 3 rfl ?_;obtain⟨x1,hx1⟩:∃ y_,c.lat[k]?=some y_:=⟨_,aA omT⟩;refine rIx (fD x1) (.dp 1 0 (fD x1)) rfl rfl (fM hx1) rfl<|oR 4 rfl<|rIx (fD x1) (.dp 1 0 (fD x1)) rfl rfl (fM hx1) rfl<|oR 1 rfl<|rV (vB (x1 != x1)) rfl<|rE 100<|aQ rfl (λ h3=>by simp[c2o,c2a,tM]at h3) (λ _=>?_);refine aY<|cRg ?_;have b1:k+1≤9223372036854775807:=by omega
  refine rW (vN (k+1)) rfl (okI (bL (show k+1≤9223372036854775807 by omega) rfl))<|oR 1 rfl<|rE 102 ?_;refine⟨k+1,λ s=>s,Weak.of_lists _ wT wH rfl,by omega,by show c.lat.length - (k+1)<c.lat.length - k;omega⟩
 ·have h2p:=aD h2;refine dR<|bI<|cSR<|oR 2 rfl<|rW (vN c.tape.length) rfl (bJ dI c.tape)<|oR 1 rfl<|rE 91<|bE<|jG (κ:=Nat) (λ j=>⟨slotsF [(2,.ptr 0 0),(3,.ptr 1 0),(85,vB (cJ (cJ (cJ (cJ (cJ (cJ (cJ (cJ (cJ (cJ (c.mode != c.mode) true (c.width != c.width)) true (c.rob != c.rob)) true (c.queue != c.queue)) true (c.stores != c.stores)) true (c.slots != c.slots)) true (c.sets != c.sets)) true (c.ways != c.ways)) true (!(c.tables==c.tables))) true (c.lat.length != c.lat.length)) true (c.tape.length != c.tape.length))),(90,vB (decide (k<c.lat.length))),(106,vN c.tape.length),(107,vN j)],heapF [(0,.box [vI c.mode,vI c.width,vI c.rob,vI c.queue,vI c.stores,vI c.slots,vI c.sets,vI c.ways,.sl 1 (c.lat.map fD) false,vB c.tables,.sl 1 (c.tape.map dI) false]),(1,.box [vI c.mode,vI c.width,vI c.rob,vI c.queue,vI c.stores,vI c.slots,vI c.sets,vI c.ways,.sl 1 (c.lat.map fD) false,vB c.tables,.sl 1 (c.tape.map dI) false])],91⟩) (λ j=>j≤c.tape.length) (λ j=>c.tape.length - j) 0 (λ s=>s) (Weak.of_lists (λ s=>s) wT wH rfl) (aE _) ?_;intro j hj;have hjn:j≤c.tape.length:=hj;have hjB:j≤9223372036854775807:=by have:=hok.tape;omega
  have htape:=hok.tape;refine cSR<|rW (vB (decide (j<c.tape.length))) rfl (okB (ltN _ _))<|rE 92<|bI<|aQ rfl (λ h4=>?_) (λ h4=>?_)
  ·have h4p:=of_decide_eq_true h4;refine aY<|bI<|bE<|cSR<|oR 2 rfl<|rE 94<|cSR<|oR 3 rfl ?_;obtain⟨x2,hx2⟩:∃ y_,c.tape[j]?=some y_:=⟨_,aA omT⟩;have hx2o:=hok.tp x2 (aB hx2);refine rIx (dI x2) (.dp 1 0 (dI x2)) rfl rfl (fM hx2) rfl<|oR 4 rfl<|rIx (dI x2) (.dp 1 0 (dI x2)) rfl rfl (fM hx2) rfl<|oR 1 rfl<|rW (vB (x2 != x2)) rfl (okB (neN _ _))<|rE 105<|aQ rfl (λ h5=>by simp[c2o,c2a,tM]at h5) (λ _=>?_);refine aY<|cRg ?_;have b2:j+1≤9223372036854775807:=by omega
   refine rW (vN (j+1)) rfl (okI (bL (show j+1≤9223372036854775807 by omega) rfl))<|oR 1 rfl<|rE 107 ?_;refine⟨j+1,λ s=>s,Weak.of_lists _ wT wH rfl,by omega,by show c.tape.length - (j+1)<c.tape.length - j;omega⟩
  ·have h4p:=aD h4;refine dR<|cSR<|oR 1 rfl<|rE 93<|cM ?_;exact fT rfl (dH (by simp[c2o,c2a,tM]))
theorem Ut(g:Gu)(hok:g.ok):bV C0 21 [.agg (guL g),.agg (guL g)] (vB true):=by
 refine dc1 (bV.intro c1Ok Tryz.func21 rfl rfl (by kernel_rfl) rfl ?_);refine cSR<|rAl 0 rfl rfl<|rAl 1 rfl rfl<|oR 1 rfl<|rE 3<|bI<|cSR<|oR 4 rfl<|rW (vB (g.hist != g.hist)) rfl (okB (neN _ _))<|oR 1 rfl<|gN rfl<|gS rfl id<|gBS (x:=vN g.slots.length) rfl id (bJ gsL g.slots)<|gN rfl<|gS rfl id<|gBS (x:=vN g.slots.length) rfl id (bJ gsL g.slots)<|gBS (x:=vB (g.slots.length != g.slots.length)) rfl hsT (okB (neN _ _))<|cL rfl rfl rfl (by simp)<|oR 1 rfl<|gN rfl<|gS rfl id<|gBS (x:=vN g.rets.length) rfl id (bJ dI g.rets)<|gN rfl<|gS rfl id<|gBS (x:=vN g.rets.length) rfl id (bJ dI g.rets)<|gBS (x:=vB (g.rets.length != g.rets.length)) rfl hsT (okB (neN _ _))<|cL rfl rfl rfl (by simp)<|rE 26<|aQ rfl (λ h1=>by simp[c2o,c2a,tM]at h1) (λ _=>?_);refine aY<|bI<|cSR<|oR 2 rfl<|rW (vN g.slots.length) rfl (bJ gsL g.slots)<|oR 1 rfl<|rE 30<|bE<|jG (κ:=Nat) (λ k=>⟨slotsF [(2,.ptr 0 0),(3,.ptr 1 0),(29,vB (cJ (cJ (g.hist != g.hist) true (g.slots.length != g.slots.length)) true (g.rets.length != g.rets.length))),(32,vN g.slots.length),(33,vN k)],heapF [(0,.box [.sl 2 (g.slots.map gsL) false,vU g.hist,.sl 1 (g.rets.map dI) false]),(1,.box [.sl 2 (g.slots.map gsL) false,vU g.hist,.sl 1 (g.rets.map dI) false])],30⟩) (λ k=>k≤g.slots.length) (λ k=>g.slots.length - k) 0 (λ s=>s) (Weak.of_lists (λ s=>s) wT wH rfl) (aE _) ?_;intro k hk;have hkn:k≤g.slots.length:=hk;have hkB:k≤9223372036854775807:=by have:=hok.slots;omega
 have hsl:=hok.slots;refine cSR<|rW (vB (decide (k<g.slots.length))) rfl (okB (ltN _ _))<|rE 31<|bI<|aQ rfl (λ h2=>?_) (λ h2=>?_)
 ·have h2p:=of_decide_eq_true h2;refine aY<|bI<|bE<|cSR<|oR 2 rfl<|rE 33<|cSR<|oR 3 rfl ?_;obtain⟨x1,hx1⟩:∃ y_,g.slots[k]?=some y_:=⟨_,aA omT⟩;have hx1o:=hok.so x1 (aB hx1);refine rIx (gsL x1) (.dp 2 0 (gsL x1)) rfl rfl (fM hx1) rfl<|oR 4 rfl<|rIx (gsL x1) (.dp 2 0 (gsL x1)) rfl rfl (fM hx1) rfl<|oR 1 rfl<|rV (vB (!((((x1.pc:Nat):Int)==((x1.pc:Nat):Int))&&((((x1.next:Nat):Int)==((x1.next:Nat):Int))&&true)))) rfl<|rE 44<|aQ rfl (λ h3=>by simp[c2o,c2a,tM]at h3) (λ _=>?_);refine aY<|cRg ?_;have b1:k+1≤9223372036854775807:=by omega
  refine rW (vN (k+1)) rfl (okI (bL (show k+1≤9223372036854775807 by omega) rfl))<|oR 1 rfl<|rE 46 ?_;refine⟨k+1,λ s=>s,Weak.of_lists _ wT wH rfl,by omega,by show g.slots.length - (k+1)<g.slots.length - k;omega⟩
 ·have h2p:=aD h2;refine dR<|bI<|cSR<|oR 2 rfl<|rW (vN g.rets.length) rfl (bJ dI g.rets)<|oR 1 rfl<|rE 35<|bE<|jG (κ:=Nat) (λ j=>⟨slotsF [(2,.ptr 0 0),(3,.ptr 1 0),(29,vB (cJ (cJ (g.hist != g.hist) true (g.slots.length != g.slots.length)) true (g.rets.length != g.rets.length))),(34,vB (decide (k<g.slots.length))),(50,vN g.rets.length),(51,vN j)],heapF [(0,.box [.sl 2 (g.slots.map gsL) false,vU g.hist,.sl 1 (g.rets.map dI) false]),(1,.box [.sl 2 (g.slots.map gsL) false,vU g.hist,.sl 1 (g.rets.map dI) false])],35⟩) (λ j=>j≤g.rets.length) (λ j=>g.rets.length - j) 0 (λ s=>s) (Weak.of_lists (λ s=>s) wT wH rfl) (aE _) ?_;intro j hj;have hjn:j≤g.rets.length:=hj;have hjB:j≤9223372036854775807:=by have:=hok.rets;omega
  have hrl:=hok.rets;refine cSR<|rW (vB (decide (j<g.rets.length))) rfl (okB (ltN _ _))<|rE 36<|bI<|aQ rfl (λ h4=>?_) (λ h4=>?_)
  ·have h4p:=of_decide_eq_true h4;refine aY<|bI<|bE<|cSR<|oR 2 rfl<|rE 38<|cSR<|oR 3 rfl ?_;obtain⟨x2,hx2⟩:∃ y_,g.rets[j]?=some y_:=⟨_,aA omT⟩;have hx2o:=hok.ro x2 (aB hx2);refine rIx (dI x2) (.dp 1 0 (dI x2)) rfl rfl (fM hx2) rfl<|oR 4 rfl<|rIx (dI x2) (.dp 1 0 (dI x2)) rfl rfl (fM hx2) rfl<|oR 1 rfl<|rW (vB (x2 != x2)) rfl (okB (neN _ _))<|rE 49<|aQ rfl (λ h5=>by simp[c2o,c2a,tM]at h5) (λ _=>?_);refine aY<|cRg ?_;have b2:j+1≤9223372036854775807:=by omega
   refine rW (vN (j+1)) rfl (okI (bL (show j+1≤9223372036854775807 by omega) rfl))<|oR 1 rfl<|rE 51 ?_;refine⟨j+1,λ s=>s,Weak.of_lists _ wT wH rfl,by omega,by show g.rets.length - (j+1)<g.rets.length - j;omega⟩
  ·have h4p:=aD h4;refine dR<|cSR<|oR 1 rfl<|rE 37<|cM ?_;exact fT rfl (dH (by simp[c2o,c2a,tM]))
theorem Ze{x y:Int}{k:IntKind}(h:x=y):Res.ok (.v (.int k x))=.ok (.v (.int k y)):=by rw[h]
theorem Kr(n:Nat):iI (List.take n (List.drop 0 (List.replicate n [AV.v (.int .u8 0)])))=some (List.replicate n (0:UInt8)):=by
 rw[cB,aI (by simp)];have:List.replicate n [AV.v (.int .u8 0)]=(List.replicate n (0:UInt8)).map λ b=>[.v (.int .u8 (b.toNat:Int))]:=by simp
 rw[this];exact sM _
theorem Nk(m:ByteArray)(j:Nat)(hm:m.size≤256)(hj:j≤4):((m.size+(⟨(List.replicate (16 * 2 ^ j - m.size) (0:UInt8)).toArray⟩:ByteArray).size:Nat):Int)≤IntKind.i64.max:=by
 have p5:=cT (n:=2) (by decide) hj;have e:(⟨(List.replicate (16 * 2 ^ j - m.size) (0:UInt8)).toArray⟩:ByteArray).size=16 * 2 ^ j - m.size:=by
  show (List.replicate (16 * 2 ^ j - m.size) (0:UInt8)).toArray.size=_;simp
 rw[e];simp only[IntKind.max,IntKind.signed,IntKind.bits];simp;omega
theorem LL(m:ByteArray):m.extract 0 m.size=m:=by simp
theorem Nl(x:ByteArray)(n:Nat):x++(⟨(List.replicate n (0:UInt8)).toArray⟩:ByteArray)=(⟨(x.data.toList++List.replicate n 0).toArray⟩:ByteArray):=by
 refine ByteArray.ext ?_;rw[ByteArray.data_append];simp
theorem Uu(m:ByteArray)(j:Nat)(hm: ¬ m.size>256)(h1: ¬ 16 * 2 ^ j<m.size)(hj:j≤4)(h2:j=0∨16 * 2 ^ (j - 1)<m.size):m++(⟨(List.replicate (16 * 2 ^ j - m.size) (0:UInt8)).toArray⟩:ByteArray)=lK m:=by
 rw[Nl];unfold lK;rw[pF (by omega),LL,MS hj (by omega) h2]
theorem RM(m:ByteArray)(j:Nat)(hm:m.size>256)(h1: ¬ 16 * 2 ^ j<(m.extract 0 256).size)(hj:j≤4)(h2:j=0∨16 * 2 ^ (j - 1)<(m.extract 0 256).size):m.extract 0 256++(⟨(List.replicate (16 * 2 ^ j - (m.extract 0 256).size) (0:UInt8)).toArray⟩:ByteArray)=lK m:=by
 have e:(m.extract 0 256).size=256:=by rw[dK];omega
 rw[Nl];unfold lK;rw[Nat.min_eq_right (by omega), ←MS (n:=256) hj (by omega) (by omega),e]
theorem DM{n j:Nat}(hn:n≤256)(h4:j≤4)(h:16 * 2 ^ j<n):j+1≤4:=Ih (n:=n) h4 (by omega)
set_option maxRecDepth 100000 in
set_option maxHeartbeats 4000000 in
theorem Zf(m:ByteArray):bV C0 22 [.v (.string m)] (.v (.string (lK m))):=by
 refine bV.intro c0Ok Tryz.func22 rfl rfl (by kernel_rfl) rfl ?_;refine bI ?_;refine cR ?_;refine rO 2 (.v (.string (⟨#[]⟩))) ?_;refine rE 1 ?_;refine bI ?_;refine bI ?_;refine cR ?_;refine rO 5 (.v (.string m)) ?_;refine rO 6 (vN m.size) ?_;refine rX 7 (vB (decide (m.size>256))) (okB (gtN _ _)) ?_;refine rE 4 ?_;refine cPr (m.size>256) Zr (λ h1=>?_) (λ h1=>?_)
 ·skip
  refine cR ?_;refine rO 8 (.v (.string m)) ?_;refine cL (x:=.v (.string (m.extract 0 256))) rfl rfl rfl (⟨by decide,by show (0:Int)≤256;decide,by show (256:Int)≤((m.size:Nat):Int);omega⟩) ?_;refine rO 0 (.v (.string (m.extract 0 256))) ?_;refine rE 7 ?_;refine bI ?_;refine cR ?_;refine rO 3 (vI 16) ?_;refine rE 8 ?_;refine bI ?_;refine bE ?_;have hM:(m.extract 0 256).size≤256:=by rw[dK];omega
  refine jG (κ:=Nat) (λ j=>⟨slotsF [(0,.v (.string (m.extract 0 256))),(3,vN (16 * 2 ^ j))],heapF [],8⟩) (λ j=>j≤4∧(j=0∨16 * 2 ^ (j - 1)<(m.extract 0 256).size)) (λ j=>4 - j) 0 (λ s=>s) (Weak.of_lists (λ s=>s) ⟨⟨rfl,rfl⟩,⟨rfl,rfl⟩,trivial⟩ trivial rfl) (⟨by decide,.inl rfl⟩) ?_;intro j hj;refine bI ?_;refine bI ?_;refine cR ?_;refine rO 10 (vN (16 * 2 ^ j)) ?_;refine rO 11 (.v (.string (m.extract 0 256))) ?_;refine rO 12 (vN ((m.extract 0 256).size)) ?_;refine rX 13 (vB (decide ((16 * 2 ^ j)<((m.extract 0 256).size)))) (okB (ltN _ _)) ?_;refine rE 12 ?_;refine cPr ((16 * 2 ^ j)<((m.extract 0 256).size)) Zr (λ h2=>?_) (λ h2=>?_)
  ·skip
   refine aY ?_;refine bE ?_;refine cR ?_;refine rO 14 (vN (16 * 2 ^ j)) ?_;refine rOk (x:=vN (16 * 2 ^ (j+1))) rfl rfl (by show Res.ok (.v (.int .i64 (IntKind.wrap .i64 (2 * ((16 * 2 ^ j:Nat):Int)))))=_;have p5:=cT (n:=2) (by decide) hj.1;rw[wrap_i64 (by omega) (by omega)];congr 3;rw[Nat.pow_succ];omega) ?_;refine rO 3 (vN (16 * 2 ^ (j+1))) ?_;refine rE 15 ?_;refine⟨j+1,λ s=>s,Weak.of_lists (λ s=>s) ⟨⟨rfl,rfl⟩,⟨rfl,rfl⟩,trivial⟩ trivial rfl,⟨DM hM hj.1 h2,.inr (by simpa using h2)⟩,(by have:=DM hM hj.1 h2;omega)⟩
  ·skip
   refine dR ?_;refine bI ?_;refine cR ?_;refine rO 16 (vN (16 * 2 ^ j)) ?_;refine rO 17 (.v (.string (m.extract 0 256))) ?_;refine rO 18 (vN ((m.extract 0 256).size)) ?_;refine rOk (x:=vN (16 * 2 ^ j - (m.extract 0 256).size)) rfl rfl (Ze (by have p5:=cT (n:=2) (by decide) hj.1;rw[wrap_i64 (by omega) (by omega)];omega)) ?_;refine rFx (x:=.osl 16 0 (16 * 2 ^ j - (m.extract 0 256).size) false) (h':=upd _ 16 (some (.arr (List.replicate (16 * 2 ^ j - (m.extract 0 256).size) [AV.v (.int .u8 0)]) 1))) rfl rfl (rfl) (by have p5:=cT (n:=2) (by decide) hj.1;refine⟨by omega,by omega,?_⟩;simp only[kK];omega) ?_;refine rO 4 (.osl 16 0 (16 * 2 ^ j - (m.extract 0 256).size) false) ?_;refine rE 18 ?_;refine bI ?_;refine cR ?_;refine rO 21 (.v (.string (m.extract 0 256))) ?_;refine rO 22 (.osl 16 0 (16 * 2 ^ j - (m.extract 0 256).size) false) ?_;refine XP (List.replicate (16 * 2 ^ j - (m.extract 0 256).size) (0:UInt8)) rfl rfl rfl (by show 0+(16 * 2 ^ j - (m.extract 0 256).size)≤(List.replicate (16 * 2 ^ j - (m.extract 0 256).size) [AV.v (.int .u8 0)]).length;rw[cC];omega) (Kr _) ?_;refine cL (x:=.v (.string (lK m))) rfl rfl (congrArg (λ x=>Res.need _ (.v (.string x))) (RM m j (by omega) (by omega) hj.1 hj.2)) (Nk (m.extract 0 256) j hM hj.1) ?_;refine rO 2 (.v (.string (lK m))) ?_;refine rE 23 ?_;refine cM ?_;exact eW rfl trivial rfl rfl
 ·skip
  refine aY ?_;refine bI ?_;refine cR ?_;refine rO 3 (vI 16) ?_;refine rE 5 ?_;refine bI ?_;refine bE ?_;have hM:m.size≤256:=by omega
  refine jG (κ:=Nat) (λ j=>⟨slotsF [(0,.v (.string m)),(3,vN (16 * 2 ^ j))],heapF [],5⟩) (λ j=>j≤4∧(j=0∨16 * 2 ^ (j - 1)<m.size)) (λ j=>4 - j) 0 (λ s=>s) (Weak.of_lists (λ s=>s) ⟨⟨rfl,rfl⟩,⟨rfl,rfl⟩,trivial⟩ trivial rfl) (⟨by decide,.inl rfl⟩) ?_;intro j hj;refine bI ?_;refine bI ?_;refine cR ?_;refine rO 10 (vN (16 * 2 ^ j)) ?_;refine rO 11 (.v (.string m)) ?_;refine rO 12 (vN m.size) ?_;refine rX 13 (vB (decide ((16 * 2 ^ j)<m.size))) (okB (ltN _ _)) ?_;refine rE 9 ?_;refine cPr ((16 * 2 ^ j)<m.size) Zr (λ h3=>?_) (λ h3=>?_)
  ·skip
   refine aY ?_;refine bE ?_;refine cR ?_;refine rO 14 (vN (16 * 2 ^ j)) ?_;refine rOk (x:=vN (16 * 2 ^ (j+1))) rfl rfl (by show Res.ok (.v (.int .i64 (IntKind.wrap .i64 (2 * ((16 * 2 ^ j:Nat):Int)))))=_;have p5:=cT (n:=2) (by decide) hj.1;rw[wrap_i64 (by omega) (by omega)];congr 3;rw[Nat.pow_succ];omega) ?_;refine rO 3 (vN (16 * 2 ^ (j+1))) ?_;refine rE 12 ?_;refine⟨j+1,λ s=>s,Weak.of_lists (λ s=>s) ⟨⟨rfl,rfl⟩,⟨rfl,rfl⟩,trivial⟩ trivial rfl,⟨DM hM hj.1 h3,.inr (by simpa using h3)⟩,(by have:=DM hM hj.1 h3;omega)⟩
  ·skip
   refine dR ?_;refine bI ?_;refine cR ?_;refine rO 16 (vN (16 * 2 ^ j)) ?_;refine rO 17 (.v (.string m)) ?_;refine rO 18 (vN m.size) ?_;refine rOk (x:=vN (16 * 2 ^ j - m.size)) rfl rfl (Ze (by have p5:=cT (n:=2) (by decide) hj.1;rw[wrap_i64 (by omega) (by omega)];omega)) ?_;refine rFx (x:=.osl 13 0 (16 * 2 ^ j - m.size) false) (h':=upd _ 13 (some (.arr (List.replicate (16 * 2 ^ j - m.size) [AV.v (.int .u8 0)]) 1))) rfl rfl (rfl) (by have p5:=cT (n:=2) (by decide) hj.1;refine⟨by omega,by omega,?_⟩;simp only[kK];omega) ?_;refine rO 4 (.osl 13 0 (16 * 2 ^ j - m.size) false) ?_;refine rE 15 ?_;refine bI ?_;refine cR ?_;refine rO 21 (.v (.string m)) ?_;refine rO 22 (.osl 13 0 (16 * 2 ^ j - m.size) false) ?_;refine XP (List.replicate (16 * 2 ^ j - m.size) (0:UInt8)) rfl rfl rfl (by show 0+(16 * 2 ^ j - m.size)≤(List.replicate (16 * 2 ^ j - m.size) [AV.v (.int .u8 0)]).length;rw[cC];omega) (Kr _) ?_;refine cL (x:=.v (.string (lK m))) rfl rfl (congrArg (λ x=>Res.need _ (.v (.string x))) (Uu m j (by omega) (by omega) hj.1 hj.2)) (Nk m j hM hj.1) ?_;refine rO 2 (.v (.string (lK m))) ?_;refine rE 20 ?_;refine cM ?_;exact eW rfl trivial rfl rfl
def LM(c:Cf)(k:Nat):List Int:=(c.lat.take (min k 64)).map λ n=>aP n 1 8
def Bp(c:Cf)(k:Nat):List Nat:=c.tape.take (min k 64)
theorem Uv{c:Cf}{k:Nat}(h:k≤c.lat.length):(LM c k).length=min k 64:=by unfold LM;rw[aH,aL];omega
theorem RN{c:Cf}{k:Nat}(h:k≤c.tape.length):(Bp c k).length=min k 64:=by unfold Bp;rw[aL];omega
theorem Ks{c:Cf}{k:Nat}{x:Int}(h:c.lat[k]?=some x)(hk:k<64):LM c k++[aP x 1 8]=LM c (k+1):=by
 unfold LM;rw[show min k 64=k by omega,show min (k+1) 64=k+1 by omega,bS,h];simp
theorem RO{c:Cf}{k:Nat}(hk: ¬ k<64):LM c k=LM c (k+1):=by unfold LM;rw[show min k 64=min (k+1) 64 by omega]
theorem GJ{c:Cf}{k:Nat}{x:Nat}(h:c.tape[k]?=some x)(hk:k<64):Bp c k++[x]=Bp c (k+1):=by
 unfold Bp;rw[show min k 64=k by omega,show min (k+1) 64=k+1 by omega,bS,h];simp
theorem Oy{c:Cf}{k:Nat}(hk: ¬ k<64):Bp c k=Bp c (k+1):=by unfold Bp;rw[show min k 64=min (k+1) 64 by omega]
theorem Nm{c:Cf}{k:Nat}(h:c.lat.length≤k):LM c k=(bC c).lat:=by
 unfold LM bC;show _=(c.lat.take 64).map _;congr 1;by_cases h2:c.lat.length≤64
 ·rw[aI (by omega),aI h2]
 ·rw[show min k 64=64 by omega]
theorem Kt{c:Cf}{k:Nat}(h:c.tape.length≤k):Bp c k=(bC c).tape:=by
 unfold Bp bC;show _=c.tape.take 64;by_cases h2:c.tape.length≤64
 ·rw[aI (by omega),aI h2]
 ·rw[show min k 64=64 by omega]
theorem FG(n lo hi:Int)(h:lo≤hi):bV C0 44 [vI n,vI lo,vI hi] (vI (aP n lo hi)):=by
 refine bV.intro c0Ok Tryz.func44 rfl rfl (by kernel_rfl) rfl<|bI<|pU rfl<|oR 1 rfl<|rE 1<|bI<|bI<|pU rfl<|oR 2 rfl<|rOk (x:=vB (decide (n<lo))) rfl rfl rfl<|rE 4<|aQ rfl (λ h1=>?_) (λ h1=>?_)
 ·have h1p:=of_decide_eq_true h1;refine bI<|pU rfl<|oR 2 rfl<|rE 6<|cM ?_;exact eW rfl trivial rfl (congrArg vI (by unfold aP;(repeat' split)<;>omega))
 ·have h1p:=aD h1;refine aY<|bI<|bI<|pU rfl<|oR 2 rfl<|rOk (x:=vB (decide (n>hi))) rfl rfl rfl<|rE 7<|aQ rfl (λ h2=>?_) (λ h2=>?_)
  ·have h2p:=of_decide_eq_true h2;refine bI<|pU rfl<|oR 2 rfl<|rE 9<|cM ?_;exact eW rfl trivial rfl (congrArg vI (by unfold aP;(repeat' split)<;>omega))
  ·have h2p:=aD h2;refine aY<|bI<|pU rfl<|oR 2 rfl<|rE 9<|cM ?_;exact eW rfl trivial rfl (congrArg vI (by unfold aP;(repeat' split)<;>omega))
theorem Uw(c:Cf)(hc:c.ok):bV C0 16 [.agg (cfL c false false)] (.agg (cfL (bC c) false false)):=by
 refine dc1 (bV.intro c1Ok Tryz.func16 rfl rfl (by kernel_rfl) rfl ?_);refine bI<|pU rfl<|rAl 0 rfl rfl<|rAl 1 rfl rfl<|rE 2<|bI<|pU rfl<|oR 2 rfl<|rCl rfl (.inl rfl) (FG c.mode 0 2 (by decide))<|oR 2 rfl<|rCl rfl (.inl rfl) (FG c.width 1 2 (by decide))<|oR 2 rfl<|rCl rfl (.inl rfl) (FG c.rob 2 8 (by decide))<|oR 2 rfl<|rCl rfl (.inl rfl) (FG c.queue 1 4 (by decide))<|oR 2 rfl<|rCl rfl (.inl rfl) (FG c.stores 1 4 (by decide))<|oR 2 rfl<|rCl rfl (.inl rfl) (FG c.slots 2 6 (by decide))<|oR 2 rfl<|rCl rfl (.inl rfl) (FG c.sets 1 4 (by decide))<|oR 2 rfl<|rCl rfl (.inl rfl) (FG c.ways 1 2 (by decide))<|oR 2 rfl<|rOk (x:=.agg [vI (aP c.mode 0 2),vI (aP c.width 1 2),vI (aP c.rob 2 8),vI (aP c.queue 1 4),vI (aP c.stores 1 4),vI (aP c.slots 2 6),vI (aP c.sets 1 4),vI (aP c.ways 1 2),.sl 0 ([]) true,vB c.tables,.sl 0 ([]) true]) rfl rfl rfl<|rAl 29 rfl rfl<|rSt rfl<|rE 31<|CG (κ:=Unit) (λ u_=>⟨slotsF [(1,.ptr 0 0),(2,.ptr 1 0),(3,.ptr 29 0)],heapF [(0,.box [vI c.mode,vI c.width,vI c.rob,vI c.queue,vI c.stores,vI c.slots,vI c.sets,vI c.ways,.sl 1 (c.lat.map fD) false,vB c.tables,.sl 1 (c.tape.map dI) false]),(1,.box [vI 0,vI 0,vI 0,vI 0,vI 0,vI 0,vI 0,vI 0,.sl 0 ([]) true,vB false,.sl 0 ([]) true]),(29,.box [vI (aP c.mode 0 2),vI (aP c.width 1 2),vI (aP c.rob 2 8),vI (aP c.queue 1 4),vI (aP c.stores 1 4),vI (aP c.slots 2 6),vI ((bC c).sets),vI (aP c.ways 1 2),.sl 0 ([]) true,vB c.tables,.sl 0 ([]) true])],31⟩) (λ u_=>True) ?_ ?_
 ·refine bI<|pU rfl<|oR 2 rfl<|rOk (x:=vB ((aP c.sets 1 4)==3)) rfl rfl rfl<|rE 34<|aQ rfl (λ h1=>?_) (λ h1=>?_)
  ·have h1p:=mO h1;refine pU rfl<|oR 1 rfl<|rSt rfl<|rE 36<|.mk _ (.refl _) ⟨(),λ s=>s,Weak.of_lists (λ s=>s) wT ⟨⟨rfl,rfl,rfl⟩,⟨rfl,rfl,rfl⟩,⟨rfl,(by rw[show (bC c).sets=2 from if_pos (by simpa using h1)];rfl),rfl⟩,trivial⟩ rfl,rfl,trivial⟩
  ·have h1p:=mP h1;refine aY<|.mk _ (.refl _) ⟨(),λ s=>s,Weak.of_lists (λ s=>s) wT ⟨⟨rfl,rfl,rfl⟩,⟨rfl,rfl,rfl⟩,⟨rfl,(by rw[show (bC c).sets=aP c.sets 1 4 from if_neg (by simpa using h1)];rfl),rfl⟩,trivial⟩ rfl,rfl,trivial⟩
 ·intro u_ _;refine CG (κ:=Unit) (λ u_=>⟨slotsF [(1,.ptr 0 0),(2,.ptr 1 0),(3,.ptr 29 0)],heapF [(0,.box [vI c.mode,vI c.width,vI c.rob,vI c.queue,vI c.stores,vI c.slots,vI c.sets,vI c.ways,.sl 1 (c.lat.map fD) false,vB c.tables,.sl 1 (c.tape.map dI) false]),(1,.box [vI 0,vI 0,vI 0,vI 0,vI 0,vI 0,vI 0,vI 0,.sl 0 ([]) true,vB false,.sl 0 ([]) true]),(29,.box [vI (aP c.mode 0 2),vI (aP c.width 1 2),vI (aP c.rob 2 8),vI (aP c.queue 1 4),vI (aP c.stores 1 4),vI (aP c.slots 2 6),vI ((bC c).sets),vI (aP c.ways 1 2),.sl 1 (((bC c).lat).map fD) false,vB c.tables,.sl 0 ([]) true])],31⟩) (λ u_=>True) ?_ ?_
  ·refine bI<|pU rfl<|oR 2 rfl<|rOk (x:=vN c.lat.length) rfl rfl (bJ fD c.lat)<|oR 1 rfl<|rE 35<|bE<|jG (κ:=Nat) (λ k=>match k with|0=>⟨slotsF [(1,.ptr 0 0),(2,.ptr 1 0),(3,.ptr 29 0),(40,.sl 1 (c.lat.map fD) false),(41,vN c.lat.length),(42,vN 0)],heapF [(0,.box [vI c.mode,vI c.width,vI c.rob,vI c.queue,vI c.stores,vI c.slots,vI c.sets,vI c.ways,.sl 1 (c.lat.map fD) false,vB c.tables,.sl 1 (c.tape.map dI) false]),(1,.box [vI 0,vI 0,vI 0,vI 0,vI 0,vI 0,vI 0,vI 0,.sl 0 ([]) true,vB false,.sl 0 ([]) true]),(29,.box [vI (aP c.mode 0 2),vI (aP c.width 1 2),vI (aP c.rob 2 8),vI (aP c.queue 1 4),vI (aP c.stores 1 4),vI (aP c.slots 2 6),vI ((bC c).sets),vI (aP c.ways 1 2),.sl 0 ([]) true,vB c.tables,.sl 0 ([]) true])],101⟩|k+1=>⟨slotsF [(1,.ptr 0 0),(2,.ptr 1 0),(3,.ptr 29 0),(40,.sl 1 (c.lat.map fD) false),(41,vN c.lat.length),(42,vN (k+1))],heapF [(0,.box [vI c.mode,vI c.width,vI c.rob,vI c.queue,vI c.stores,vI c.slots,vI c.sets,vI c.ways,.sl 1 (c.lat.map fD) false,vB c.tables,.sl 1 (c.tape.map dI) false]),(1,.box [vI 0,vI 0,vI 0,vI 0,vI 0,vI 0,vI 0,vI 0,.sl 0 ([]) true,vB false,.sl 0 ([]) true]),(29,.box [vI (aP c.mode 0 2),vI (aP c.width 1 2),vI (aP c.rob 2 8),vI (aP c.queue 1 4),vI (aP c.stores 1 4),vI (aP c.slots 2 6),vI ((bC c).sets),vI (aP c.ways 1 2),.osl 100 0 (min (k+1) 64) false,vB c.tables,.sl 0 ([]) true]),(100,.arr ((LM c (k+1)).map fD) 1)],101⟩) (λ k=>k≤c.lat.length) (λ k=>c.lat.length - k) 0 (λ s=>s) (Weak.of_lists (λ s=>s) wT wH rfl) (aE _) ?_;intro k hk;rcases k with _|k
   ·refine bI<|pU rfl<|rOk (x:=vB (decide (0<c.lat.length))) rfl rfl (okB (ltN _ _))<|rE 102<|bI<|aQ rfl (λ h2=>?_) (λ h2=>?_)
    ·have h2p:=of_decide_eq_true h2;refine aY<|bI<|bE<|bI<|pU rfl<|oR 1 rfl ?_;obtain⟨x,hx⟩:∃ y_,c.lat[0]?=some y_:=⟨_,aA omT⟩;refine Fi (fD x) (x:=.dp 1 0 (fD x)) rfl rfl rfl (⟨by decide,fM hx⟩) rfl<|oR 3 rfl<|rE 107<|bI<|pU rfl<|oR 1 rfl<|rOk (x:=vB (decide (0<64))) rfl rfl (okB (ltN _ _))<|rE 109<|aQ rfl (λ _=>?_) (λ h3=>by exact absurd h3 (by decide));refine pU rfl<|oR 3 rfl<|rCl rfl (.inl rfl) (FG x 1 8 (by decide))<|rOk (x:=.sl 1 ([[vI (aP x 1 8)]]) true) rfl rfl rfl<|rFx (x:=.osl 114 0 1 false) (h':=upd _ 114 (some (.arr (([(aP x 1 8:Int)]).map fD) 1))) rfl rfl (CB omT) (⟨rfl,by exact omT,by exact omT,trivial⟩)<|oR 1 rfl<|rSt rfl<|rE 117<|pU rfl ?_;have b1:0+1≤9223372036854775807:=by have:=hc.lat;have:=hc.tape;omega
     refine rOk (x:=vN (0+1)) rfl rfl (okI (bL (show 0+1≤9223372036854775807 by have:=hc.lat;have:=hc.tape;omega) rfl))<|oR 1 rfl<|rE 119 ?_;refine⟨0+1,λ i=>match i with|100=>114|i=>i,Weak.of_lists (λ i=>match i with|100=>114|i=>i) wT ⟨⟨rfl,rfl,rfl⟩,⟨rfl,rfl,rfl⟩,⟨rfl,rfl,rfl⟩,⟨rfl,(congrArg (λ z:List Int=>some (Blk.arr (z.map fD) 1)) (Ks hx (by omega))),rfl⟩,trivial⟩ rfl,by have:=of_decide_eq_true h2;omega,by have:=of_decide_eq_true h2;show c.lat.length - (0+1)<c.lat.length - (0);omega⟩
    ·have h2p:=aD h2;refine dR<|.mk _ (.step none (Ghost.of_lists (l:=[(1,.ptr 0 0),(2,.ptr 1 0),(3,.ptr 29 0)]) (hp:=[(0,.box [vI c.mode,vI c.width,vI c.rob,vI c.queue,vI c.stores,vI c.slots,vI c.sets,vI c.ways,.sl 1 (c.lat.map fD) false,vB c.tables,.sl 1 (c.tape.map dI) false]),(1,.box [vI 0,vI 0,vI 0,vI 0,vI 0,vI 0,vI 0,vI 0,.sl 0 ([]) true,vB false,.sl 0 ([]) true]),(29,.box [vI (aP c.mode 0 2),vI (aP c.width 1 2),vI (aP c.rob 2 8),vI (aP c.queue 1 4),vI (aP c.stores 1 4),vI (aP c.slots 2 6),vI ((bC c).sets),vI (aP c.ways 1 2),.sl 1 ([]) false,vB c.tables,.sl 0 ([]) true])]) trivial rfT ⟨⟨trivial,_,rfl,.refl _⟩,⟨trivial,_,rfl,.refl _⟩,⟨trivial,_,rfl,LeB.boxL ⟨.refl _,.refl _,.refl _,.refl _,.refl _,.refl _,.refl _,.refl _,.nil 1 false,.refl _,.refl _,trivial⟩⟩,trivial⟩) (.refl _)) ⟨(),λ s=>s,Weak.of_lists (λ s=>s) wT ⟨⟨rfl,rfl,rfl⟩,⟨rfl,rfl,rfl⟩,⟨rfl,(by rw[←Nm (c:=c) (k:=0) (by have:=aD h2;omega)];rfl),rfl⟩,trivial⟩ rfl,rfl,trivial⟩
   ·have hkB:k+1≤9223372036854775807:=by have:=hc.lat;omega
    have hKl:=Uv (c:=c) (k:=k+1) hk;refine bI<|pU rfl<|rOk (x:=vB (decide ((k+1)<c.lat.length))) rfl rfl (okB (ltN _ _))<|rE 102<|bI<|aQ rfl (λ h4=>?_) (λ h4=>?_)
    ·have h4p:=of_decide_eq_true h4;refine aY<|bI<|bE<|bI<|pU rfl<|oR 1 rfl ?_;obtain⟨x,hx⟩:∃ y_,c.lat[(k+1)]?=some y_:=⟨_,aA omT⟩;refine Fi (fD x) (x:=.dp 1 0 (fD x)) rfl rfl rfl (⟨aG _,fM hx⟩) rfl<|oR 3 rfl<|rE 107<|bI<|pU rfl<|oR 1 rfl<|rOk (x:=vB (decide ((k+1)<64))) rfl rfl (okB (ltN _ _))<|rE 109<|aQ rfl (λ h5=>?_) (λ h5=>?_)
     ·have h5p:=of_decide_eq_true h5;refine pU rfl<|oR 3 rfl<|rCl rfl (.inl rfl) (FG x 1 8 (by decide))<|rOk (x:=.sl 1 ([[vI (aP x 1 8)]]) true) rfl rfl rfl<|rFx (x:=.osl 114 0 (min (k+1) 64+1) false) (h':=upd (upd _ 100 none) 114 (some (.arr (((LM c (k+1))++([(aP x 1 8:Int)])).map fD) 1))) rfl rfl (gV fD (LM c (k+1)) ([(aP x 1 8:Int)]) omT omT) (⟨by exact omT,by exact omT,trivial⟩)<|oR 1 rfl<|rSt rfl<|rE 117<|pU rfl ?_;have b2:k+1+1≤9223372036854775807:=by have:=hc.lat;have:=hc.tape;omega
      refine rOk (x:=vN (k+1+1)) rfl rfl (okI (bL (show k+1+1≤9223372036854775807 by have:=hc.lat;have:=hc.tape;omega) rfl))<|oR 1 rfl<|rE 119 ?_;refine⟨(k+1)+1,λ i=>match i with|100=>114|i=>i,Weak.of_lists (λ i=>match i with|100=>114|i=>i) wT ⟨⟨rfl,rfl,rfl⟩,⟨rfl,rfl,rfl⟩,⟨rfl,(by rw[show min (k+1) 64+1=min (k+1+1) 64 by omega];rfl),rfl⟩,⟨rfl,(congrArg (λ z:List Int=>some (Blk.arr (z.map fD) 1)) (Ks hx (by omega))),rfl⟩,trivial⟩ rfl,by have:=of_decide_eq_true h4;omega,by have:=of_decide_eq_true h4;show c.lat.length - ((k+1)+1)<c.lat.length - (k+1);omega⟩
     ·have h5p:=aD h5;refine aY<|pU rfl ?_;have b3:k+1+1≤9223372036854775807:=by have:=hc.lat;have:=hc.tape;omega
      refine rOk (x:=vN (k+1+1)) rfl rfl (okI (bL (show k+1+1≤9223372036854775807 by have:=hc.lat;have:=hc.tape;omega) rfl))<|oR 1 rfl<|rE 111 ?_;refine⟨(k+1)+1,λ i=>i,Weak.of_lists (λ i=>i) wT ⟨⟨rfl,rfl,rfl⟩,⟨rfl,rfl,rfl⟩,⟨rfl,(by rw[show min (k+1) 64=min (k+1+1) 64 by have:=aD h5;omega];rfl),rfl⟩,⟨rfl,(congrArg (λ z:List Int=>some (Blk.arr (z.map fD) 1)) (RO (c:=c) (by have:=aD h5;omega))),rfl⟩,trivial⟩ rfl,by have:=of_decide_eq_true h4;omega,by have:=of_decide_eq_true h4;show c.lat.length - ((k+1)+1)<c.lat.length - (k+1);omega⟩
    ·have h4p:=aD h4;refine dR<|.mk _ (.step (some (100,1,(LM c (k+1)).map fD)) (Ghost.of_lists (l:=[(1,.ptr 0 0),(2,.ptr 1 0),(3,.ptr 29 0)]) (hp:=[(0,.box [vI c.mode,vI c.width,vI c.rob,vI c.queue,vI c.stores,vI c.slots,vI c.sets,vI c.ways,.sl 1 (c.lat.map fD) false,vB c.tables,.sl 1 (c.tape.map dI) false]),(1,.box [vI 0,vI 0,vI 0,vI 0,vI 0,vI 0,vI 0,vI 0,.sl 0 ([]) true,vB false,.sl 0 ([]) true]),(29,.box [vI (aP c.mode 0 2),vI (aP c.width 1 2),vI (aP c.rob 2 8),vI (aP c.queue 1 4),vI (aP c.stores 1 4),vI (aP c.slots 2 6),vI ((bC c).sets),vI (aP c.ways 1 2),.sl 1 ((LM c (k+1)).map fD) false,vB c.tables,.sl 0 ([]) true])]) rfl rfT ⟨⟨rfl,_,rfl,.refl _⟩,⟨rfl,_,rfl,.refl _⟩,⟨rfl,_,rfl,LeB.boxL ⟨.refl _,.refl _,.refl _,.refl _,.refl _,.refl _,.refl _,.refl _,lV hKl,.refl _,.refl _,trivial⟩⟩,trivial⟩) (.refl _)) ⟨(),λ s=>s,Weak.of_lists (λ s=>s) wT ⟨⟨rfl,rfl,rfl⟩,⟨rfl,rfl,rfl⟩,⟨rfl,(by rw[←Nm (c:=c) (k:=k+1) (by have:=aD h4;omega)];rfl),rfl⟩,trivial⟩ rfl,rfl,trivial⟩
  ·intro u_ _;refine CG (κ:=Unit) (λ u_=>⟨slotsF [(1,.ptr 0 0),(2,.ptr 1 0),(3,.ptr 29 0)],heapF [(0,.box [vI c.mode,vI c.width,vI c.rob,vI c.queue,vI c.stores,vI c.slots,vI c.sets,vI c.ways,.sl 1 (c.lat.map fD) false,vB c.tables,.sl 1 (c.tape.map dI) false]),(1,.box [vI 0,vI 0,vI 0,vI 0,vI 0,vI 0,vI 0,vI 0,.sl 0 ([]) true,vB false,.sl 0 ([]) true]),(29,.box [vI (aP c.mode 0 2),vI (aP c.width 1 2),vI (aP c.rob 2 8),vI (aP c.queue 1 4),vI (aP c.stores 1 4),vI (aP c.slots 2 6),vI ((bC c).sets),vI (aP c.ways 1 2),.sl 1 (((bC c).lat).map fD) false,vB c.tables,.sl 1 (((bC c).tape).map dI) false])],31⟩) (λ u_=>True) ?_ ?_
   ·refine bI<|pU rfl<|oR 2 rfl<|rOk (x:=vN c.tape.length) rfl rfl (bJ dI c.tape)<|oR 1 rfl<|rE 35<|bE<|jG (κ:=Nat) (λ k=>match k with|0=>⟨slotsF [(1,.ptr 0 0),(2,.ptr 1 0),(3,.ptr 29 0),(58,.sl 1 (c.tape.map dI) false),(59,vN c.tape.length),(60,vN 0)],heapF [(0,.box [vI c.mode,vI c.width,vI c.rob,vI c.queue,vI c.stores,vI c.slots,vI c.sets,vI c.ways,.sl 1 (c.lat.map fD) false,vB c.tables,.sl 1 (c.tape.map dI) false]),(1,.box [vI 0,vI 0,vI 0,vI 0,vI 0,vI 0,vI 0,vI 0,.sl 0 ([]) true,vB false,.sl 0 ([]) true]),(29,.box [vI (aP c.mode 0 2),vI (aP c.width 1 2),vI (aP c.rob 2 8),vI (aP c.queue 1 4),vI (aP c.stores 1 4),vI (aP c.slots 2 6),vI ((bC c).sets),vI (aP c.ways 1 2),.sl 1 (((bC c).lat).map fD) false,vB c.tables,.sl 0 ([]) true])],101⟩|k+1=>⟨slotsF [(1,.ptr 0 0),(2,.ptr 1 0),(3,.ptr 29 0),(58,.sl 1 (c.tape.map dI) false),(59,vN c.tape.length),(60,vN (k+1))],heapF [(0,.box [vI c.mode,vI c.width,vI c.rob,vI c.queue,vI c.stores,vI c.slots,vI c.sets,vI c.ways,.sl 1 (c.lat.map fD) false,vB c.tables,.sl 1 (c.tape.map dI) false]),(1,.box [vI 0,vI 0,vI 0,vI 0,vI 0,vI 0,vI 0,vI 0,.sl 0 ([]) true,vB false,.sl 0 ([]) true]),(29,.box [vI (aP c.mode 0 2),vI (aP c.width 1 2),vI (aP c.rob 2 8),vI (aP c.queue 1 4),vI (aP c.stores 1 4),vI (aP c.slots 2 6),vI ((bC c).sets),vI (aP c.ways 1 2),.sl 1 (((bC c).lat).map fD) false,vB c.tables,.osl 100 0 (min (k+1) 64) false]),(100,.arr ((Bp c (k+1)).map dI) 1)],101⟩) (λ k=>k≤c.tape.length) (λ k=>c.tape.length - k) 0 (λ s=>s) (Weak.of_lists (λ s=>s) wT wH rfl) (aE _) ?_;intro k hk;rcases k with _|k
    ·refine bI<|pU rfl<|rOk (x:=vB (decide (0<c.tape.length))) rfl rfl (okB (ltN _ _))<|rE 102<|bI<|aQ rfl (λ h6=>?_) (λ h6=>?_)
     ·have h6p:=of_decide_eq_true h6;refine aY<|bI<|bE<|bI<|pU rfl<|oR 1 rfl ?_;obtain⟨x,hx⟩:∃ y_,c.tape[0]?=some y_:=⟨_,aA omT⟩;have hxo:=hc.tp x (aB hx);refine Fi (dI x) (x:=.dp 1 0 (dI x)) rfl rfl rfl (⟨by decide,fM hx⟩) rfl<|oR 3 rfl<|rE 107<|bI<|pU rfl<|oR 1 rfl<|rOk (x:=vB (decide (0<64))) rfl rfl (okB (ltN _ _))<|rE 109<|aQ rfl (λ _=>?_) (λ h7=>by exact absurd h7 (by decide));refine pU rfl<|oR 3 rfl<|rOk (x:=.sl 1 ([[vU x]]) true) rfl rfl rfl<|rFx (x:=.osl 113 0 1 false) (h':=upd _ 113 (some (.arr (([x]).map dI) 1))) rfl rfl (CB omT) (⟨rfl,by exact omT,by exact omT,trivial⟩)<|oR 1 rfl<|rSt rfl<|rE 116<|pU rfl ?_;have b4:0+1≤9223372036854775807:=by have:=hc.lat;have:=hc.tape;omega
      refine rOk (x:=vN (0+1)) rfl rfl (okI (bL (show 0+1≤9223372036854775807 by have:=hc.lat;have:=hc.tape;omega) rfl))<|oR 1 rfl<|rE 118 ?_;refine⟨0+1,λ i=>match i with|100=>113|i=>i,Weak.of_lists (λ i=>match i with|100=>113|i=>i) wT ⟨⟨rfl,rfl,rfl⟩,⟨rfl,rfl,rfl⟩,⟨rfl,rfl,rfl⟩,⟨rfl,(congrArg (λ z:List Nat=>some (Blk.arr (z.map dI) 1)) (GJ hx (by omega))),rfl⟩,trivial⟩ rfl,by have:=of_decide_eq_true h6;omega,by have:=of_decide_eq_true h6;show c.tape.length - (0+1)<c.tape.length - (0);omega⟩
     ·have h6p:=aD h6;refine dR<|.mk _ (.step none (Ghost.of_lists (l:=[(1,.ptr 0 0),(2,.ptr 1 0),(3,.ptr 29 0)]) (hp:=[(0,.box [vI c.mode,vI c.width,vI c.rob,vI c.queue,vI c.stores,vI c.slots,vI c.sets,vI c.ways,.sl 1 (c.lat.map fD) false,vB c.tables,.sl 1 (c.tape.map dI) false]),(1,.box [vI 0,vI 0,vI 0,vI 0,vI 0,vI 0,vI 0,vI 0,.sl 0 ([]) true,vB false,.sl 0 ([]) true]),(29,.box [vI (aP c.mode 0 2),vI (aP c.width 1 2),vI (aP c.rob 2 8),vI (aP c.queue 1 4),vI (aP c.stores 1 4),vI (aP c.slots 2 6),vI ((bC c).sets),vI (aP c.ways 1 2),.sl 1 (((bC c).lat).map fD) false,vB c.tables,.sl 1 ([]) false])]) trivial rfT ⟨⟨trivial,_,rfl,.refl _⟩,⟨trivial,_,rfl,.refl _⟩,⟨trivial,_,rfl,LeB.boxL ⟨.refl _,.refl _,.refl _,.refl _,.refl _,.refl _,.refl _,.refl _,.refl _,.refl _,.nil 1 false,trivial⟩⟩,trivial⟩) (.refl _)) ⟨(),λ s=>s,Weak.of_lists (λ s=>s) wT ⟨⟨rfl,rfl,rfl⟩,⟨rfl,rfl,rfl⟩,⟨rfl,(by rw[←Kt (c:=c) (k:=0) (by have:=aD h6;omega)];rfl),rfl⟩,trivial⟩ rfl,rfl,trivial⟩
    ·have hkB:k+1≤9223372036854775807:=by have:=hc.tape;omega
     have hKl:=RN (c:=c) (k:=k+1) hk;refine bI<|pU rfl<|rOk (x:=vB (decide ((k+1)<c.tape.length))) rfl rfl (okB (ltN _ _))<|rE 102<|bI<|aQ rfl (λ h8=>?_) (λ h8=>?_)
     ·have h8p:=of_decide_eq_true h8;refine aY<|bI<|bE<|bI<|pU rfl<|oR 1 rfl ?_;obtain⟨x,hx⟩:∃ y_,c.tape[(k+1)]?=some y_:=⟨_,aA omT⟩;have hxo:=hc.tp x (aB hx);refine Fi (dI x) (x:=.dp 1 0 (dI x)) rfl rfl rfl (⟨aG _,fM hx⟩) rfl<|oR 3 rfl<|rE 107<|bI<|pU rfl<|oR 1 rfl<|rOk (x:=vB (decide ((k+1)<64))) rfl rfl (okB (ltN _ _))<|rE 109<|aQ rfl (λ h9=>?_) (λ h9=>?_)
      ·have h9p:=of_decide_eq_true h9;refine pU rfl<|oR 3 rfl<|rOk (x:=.sl 1 ([[vU x]]) true) rfl rfl rfl<|rFx (x:=.osl 113 0 (min (k+1) 64+1) false) (h':=upd (upd _ 100 none) 113 (some (.arr (((Bp c (k+1))++([x])).map dI) 1))) rfl rfl (gV dI (Bp c (k+1)) ([x]) omT omT) (⟨by exact omT,by exact omT,trivial⟩)<|oR 1 rfl<|rSt rfl<|rE 116<|pU rfl ?_;have b5:k+1+1≤9223372036854775807:=by have:=hc.lat;have:=hc.tape;omega
       refine rOk (x:=vN (k+1+1)) rfl rfl (okI (bL (show k+1+1≤9223372036854775807 by have:=hc.lat;have:=hc.tape;omega) rfl))<|oR 1 rfl<|rE 118 ?_;refine⟨(k+1)+1,λ i=>match i with|100=>113|i=>i,Weak.of_lists (λ i=>match i with|100=>113|i=>i) wT ⟨⟨rfl,rfl,rfl⟩,⟨rfl,rfl,rfl⟩,⟨rfl,(by rw[show min (k+1) 64+1=min (k+1+1) 64 by omega];rfl),rfl⟩,⟨rfl,(congrArg (λ z:List Nat=>some (Blk.arr (z.map dI) 1)) (GJ hx (by omega))),rfl⟩,trivial⟩ rfl,by have:=of_decide_eq_true h8;omega,by have:=of_decide_eq_true h8;show c.tape.length - ((k+1)+1)<c.tape.length - (k+1);omega⟩
      ·have h9p:=aD h9;refine aY<|pU rfl ?_;have b6:k+1+1≤9223372036854775807:=by have:=hc.lat;have:=hc.tape;omega
       refine rOk (x:=vN (k+1+1)) rfl rfl (okI (bL (show k+1+1≤9223372036854775807 by have:=hc.lat;have:=hc.tape;omega) rfl))<|oR 1 rfl<|rE 111 ?_;refine⟨(k+1)+1,λ i=>i,Weak.of_lists (λ i=>i) wT ⟨⟨rfl,rfl,rfl⟩,⟨rfl,rfl,rfl⟩,⟨rfl,(by rw[show min (k+1) 64=min (k+1+1) 64 by have:=aD h9;omega];rfl),rfl⟩,⟨rfl,(congrArg (λ z:List Nat=>some (Blk.arr (z.map dI) 1)) (Oy (c:=c) (by have:=aD h9;omega))),rfl⟩,trivial⟩ rfl,by have:=of_decide_eq_true h8;omega,by have:=of_decide_eq_true h8;show c.tape.length - ((k+1)+1)<c.tape.length - (k+1);omega⟩
     ·have h8p:=aD h8;refine dR<|.mk _ (.step (some (100,1,(Bp c (k+1)).map dI)) (Ghost.of_lists (l:=[(1,.ptr 0 0),(2,.ptr 1 0),(3,.ptr 29 0)]) (hp:=[(0,.box [vI c.mode,vI c.width,vI c.rob,vI c.queue,vI c.stores,vI c.slots,vI c.sets,vI c.ways,.sl 1 (c.lat.map fD) false,vB c.tables,.sl 1 (c.tape.map dI) false]),(1,.box [vI 0,vI 0,vI 0,vI 0,vI 0,vI 0,vI 0,vI 0,.sl 0 ([]) true,vB false,.sl 0 ([]) true]),(29,.box [vI (aP c.mode 0 2),vI (aP c.width 1 2),vI (aP c.rob 2 8),vI (aP c.queue 1 4),vI (aP c.stores 1 4),vI (aP c.slots 2 6),vI ((bC c).sets),vI (aP c.ways 1 2),.sl 1 (((bC c).lat).map fD) false,vB c.tables,.sl 1 ((Bp c (k+1)).map dI) false])]) rfl rfT ⟨⟨rfl,_,rfl,.refl _⟩,⟨rfl,_,rfl,.refl _⟩,⟨rfl,_,rfl,LeB.boxL ⟨.refl _,.refl _,.refl _,.refl _,.refl _,.refl _,.refl _,.refl _,.refl _,.refl _,lV hKl,trivial⟩⟩,trivial⟩) (.refl _)) ⟨(),λ s=>s,Weak.of_lists (λ s=>s) wT ⟨⟨rfl,rfl,rfl⟩,⟨rfl,rfl,rfl⟩,⟨rfl,(by rw[←Kt (c:=c) (k:=k+1) (by have:=aD h8;omega)];rfl),rfl⟩,trivial⟩ rfl,rfl,trivial⟩
   ·intro u_ _;refine bI<|pU rfl<|oR 1 rfl<|rSt rfl<|rE 33<|cM ?_;exact eW rfl rcT rfl rfl
def nwA(sets:Int):Nat:=if 2≤sets then 2 else 1
def nwB(sets:Int):Nat:=if 4≤sets then 4 else nwA sets
theorem Nn(sets:Int):nwB sets≤4∧1≤nwB sets:=by unfold nwB nwA;(repeat' split)<;>omega
theorem Zg(sets:Int):(if aP sets 1 4=3 then 2 else aP sets 1 4).toNat=nwB sets:=by unfold nwB nwA aP;(repeat' split)<;>omega
theorem Np(n:Nat):List.replicate n [IB]++[[.sl 0 [] true]]=List.replicate (n+1) [IB]:=List.replicate_succ'.symm
theorem RP(n:Nat):List.take n (List.drop 0 (List.replicate n [IB]))++[[.sl 0 [] true]]=List.replicate (n+1) [IB]:=by
 rw[cB,aI (by rw[cC];exact aC _)];exact Np n
theorem Zh(sets ways:Int):bV C0 18 [vI sets,vI ways] (.agg (caL (vZ sets ways) false)):=by
 refine bV.intro c0Ok Tryz.func18 rfl rfl (by kernel_rfl) rfl<|bI<|pU rfl<|rAl 0 rfl rfl<|rE 1<|bI<|pU rfl<|rOk (x:=.agg [vI 1,.sl 0 ([]) true]) rfl rfl rfl<|rAl 2 rfl rfl<|rSt rfl<|rE 4<|CG (κ:=Unit) (λ u_=>⟨slotsF [(0,vI sets),(4,.ptr 0 0),(5,.ptr 2 0)],heapF [(0,.box [vI 0,.sl 0 ([]) true]),(2,.box [vI (aP ways 1 2),.sl 0 ([]) true])],4⟩) (λ u_=>True) ?_ ?_
 ·refine bI<|pU rfl<|oR 1 rfl<|rOk (x:=vB (decide (ways≥2))) rfl rfl rfl<|rE 6<|aQ rfl (λ h1=>?_) (λ h1=>?_)
  ·refine pU rfl<|oR 1 rfl<|rSt rfl<|rE 8<|.mk _ (.refl _) ⟨(),λ s=>s,Weak.of_lists (λ s=>s) wT ⟨⟨rfl,rfl,rfl⟩,⟨rfl,(by rw[show aP ways 1 2=2 by have:=of_decide_eq_true h1;unfold aP;(repeat' split)<;>omega];rfl),rfl⟩,trivial⟩ rfl,rfl,trivial⟩
  ·refine aY<|.mk _ (.refl _) ⟨(),λ s=>s,Weak.of_lists (λ s=>s) wT ⟨⟨rfl,rfl,rfl⟩,⟨rfl,(by rw[show aP ways 1 2=1 by have:=aD h1;unfold aP;(repeat' split)<;>omega];rfl),rfl⟩,trivial⟩ rfl,rfl,trivial⟩
 ·intro u_ _;refine bI<|pU rfl<|oR 1 rfl<|rE 5<|CG (κ:=Unit) (λ u_=>⟨slotsF [(0,vI sets),(4,.ptr 0 0),(5,.ptr 2 0),(6,vN (nwA sets))],heapF [(0,.box [vI 0,.sl 0 ([]) true]),(2,.box [vI (aP ways 1 2),.sl 0 ([]) true])],5⟩) (λ u_=>True) ?_ ?_
  ·refine bI<|pU rfl<|oR 1 rfl<|rOk (x:=vB (decide (sets≥2))) rfl rfl rfl<|rE 7<|aQ rfl (λ h2=>?_) (λ h2=>?_)
   ·refine pU rfl<|oR 1 rfl<|rE 8<|.mk _ (.refl _) ⟨(),λ s=>s,Weak.of_lists (λ s=>s) ⟨⟨rfl,rfl⟩,⟨rfl,rfl⟩,⟨rfl,rfl⟩,⟨(congrArg vN (show 2=nwA sets by have:=of_decide_eq_true h2;unfold nwA;split<;>first|rfl|omega)),rfl⟩,trivial⟩ wH rfl,rfl,trivial⟩
   ·refine aY<|.mk _ (.refl _) ⟨(),λ s=>s,Weak.of_lists (λ s=>s) ⟨⟨rfl,rfl⟩,⟨rfl,rfl⟩,⟨rfl,rfl⟩,⟨(congrArg vN (show 1=nwA sets by have:=aD h2;unfold nwA;split<;>first|rfl|omega)),rfl⟩,trivial⟩ wH rfl,rfl,trivial⟩
  ·intro u_ _;refine CG (κ:=Unit) (λ u_=>⟨slotsF [(0,vI sets),(4,.ptr 0 0),(5,.ptr 2 0),(6,vN (nwB sets))],heapF [(0,.box [vI 0,.sl 0 ([]) true]),(2,.box [vI (aP ways 1 2),.sl 0 ([]) true])],5⟩) (λ u_=>True) ?_ ?_
   ·refine bI<|pU rfl<|oR 1 rfl<|rOk (x:=vB (decide (sets≥4))) rfl rfl rfl<|rE 7<|aQ rfl (λ h3=>?_) (λ h3=>?_)
    ·refine pU rfl<|oR 1 rfl<|rE 8<|.mk _ (.refl _) ⟨(),λ s=>s,Weak.of_lists (λ s=>s) ⟨⟨rfl,rfl⟩,⟨rfl,rfl⟩,⟨rfl,rfl⟩,⟨(congrArg vN (show 4=nwB sets by have:=of_decide_eq_true h3;unfold nwB;split<;>first|rfl|omega)),rfl⟩,trivial⟩ wH rfl,rfl,trivial⟩
    ·refine aY<|.mk _ (.refl _) ⟨(),λ s=>s,Weak.of_lists (λ s=>s) ⟨⟨rfl,rfl⟩,⟨rfl,rfl⟩,⟨rfl,rfl⟩,⟨(congrArg vN (show nwA sets=nwB sets by have:=aD h3;unfold nwB;split<;>first|rfl|omega)),rfl⟩,trivial⟩ wH rfl,rfl,trivial⟩
   ·intro u_ _;refine bI<|bI<|pU rfl<|oR 1 rfl<|rE 6<|bE<|jG (κ:=Nat) (λ k=>match k with|0=>⟨slotsF [(4,.ptr 0 0),(5,.ptr 2 0),(6,vN (nwB sets)),(7,vN 0)],heapF [(0,.box [vI 0,.sl 0 ([]) true]),(2,.box [vI (aP ways 1 2),.sl 0 ([]) true])],101⟩|k+1=>⟨slotsF [(4,.ptr 0 0),(5,.ptr 2 0),(6,vN (nwB sets)),(7,vN (k+1))],heapF [(0,.box [vI 0,.sl 0 ([]) true]),(2,.box [vI (aP ways 1 2),.osl 100 0 (k+1) false]),(100,.arr (List.replicate (k+1) [IB]) 1)],101⟩) (λ k=>k≤nwB sets) (λ k=>nwB sets - k) 0 (λ s=>s) (Weak.of_lists (λ s=>s) wT wH rfl) (aE _) ?_;intro k hk;rcases k with _|k
    ·refine bI<|bI<|pU rfl<|oR 2 rfl<|rOk (x:=vB (decide (0<(nwB sets)))) rfl rfl (okB (ltN _ _))<|rE 104<|aQ rfl (λ _=>?_) (λ h4=>by have:=aD h4;have:=(Nn sets).2;omega);refine aY<|bI<|bE<|pU rfl<|oR 2 rfl<|rOk (x:=.sl 1 ([[.sl 0 ([]) true]]) true) rfl rfl rfl<|rFx (x:=.osl 107 0 1 false) (h':=upd _ 107 (some (.arr ([[.sl 0 ([]) true]]) 1))) rfl rfl (rfl) (⟨rfl,by decide,by decide,trivial⟩)<|oR 1 rfl<|rSt rfl<|rE 110<|pU rfl<|oR 1 rfl ?_;have b1:0+1≤1:=aF (aC 0) (aC 1);refine rOk (x:=vN (0+1)) rfl rfl (okI (bL b1 rfl))<|oR 1 rfl<|rE 113 ?_;refine⟨0+1,λ i=>match i with|100=>107|i=>i,Weak.of_lists (λ i=>match i with|100=>107|i=>i) wT ⟨⟨rfl,rfl,rfl⟩,⟨rfl,rfl,rfl⟩,⟨rfl,(congrArg (λ z=>some (Blk.arr z 1)) (Np 0)),rfl⟩,trivial⟩ rfl,by have:=(Nn sets).2;omega,by have:=(Nn sets).2;show nwB sets - (0+1)<nwB sets - (0);omega⟩
    ·have hkB:k+1≤4:=by have:=(Nn sets).1;omega
     refine bI<|bI<|pU rfl<|oR 2 rfl<|rOk (x:=vB (decide ((k+1)<(nwB sets)))) rfl rfl (okB (ltN _ _))<|rE 104<|aQ rfl (λ h5=>?_) (λ h5=>?_)
     ·refine aY<|bI<|bE<|pU rfl<|oR 2 rfl<|rOk (x:=.sl 1 ([[.sl 0 ([]) true]]) true) rfl rfl rfl<|rFx (x:=.osl 107 0 (k+1+1) false) (h':=upd (upd _ 100 none) 107 (some (.arr ((List.take (k+1) (List.drop 0 (List.replicate (k+1) [IB])))++([[.sl 0 ([]) true]])) 1))) rfl rfl (by show Res.fx _ (.osl 107 0 ((List.take (k+1) (List.drop 0 (List.replicate (k+1) [IB]))).length+1) false) _=_;rw[show (List.take (k+1) (List.drop 0 (List.replicate (k+1) [IB]))).length=k+1 by simp]) (by refine⟨?_,by simp,trivial⟩;simp[kK];omega)<|oR 1 rfl<|rSt rfl<|rE 110<|pU rfl<|oR 1 rfl ?_;have b2:(k+1)+1≤5:=aF hkB (aC 1);refine rOk (x:=vN ((k+1)+1)) rfl rfl (okI (bL b2 rfl))<|oR 1 rfl<|rE 113 ?_;refine⟨(k+1)+1,λ i=>match i with|100=>107|i=>i,Weak.of_lists (λ i=>match i with|100=>107|i=>i) wT ⟨⟨rfl,rfl,rfl⟩,⟨rfl,rfl,rfl⟩,⟨rfl,(congrArg (λ z=>some (Blk.arr z 1)) (RP (k+1))),rfl⟩,trivial⟩ rfl,by have:=of_decide_eq_true h5;omega,by have:=of_decide_eq_true h5;show nwB sets - ((k+1)+1)<nwB sets - (k+1);omega⟩
     ·refine dR<|bI<|pU rfl<|oR 1 rfl<|rSt rfl<|rE 106<|cM ?_;have e:k+1=nwB sets:=by have:=aD h5;omega
      refine⟨_,rfl,⟨trivial,by show 0+(k+1)≤(List.replicate (k+1) [IB]).length;rw[cC];omega,trivial⟩,rfl,Sub.agg ⟨Sub.refl _,?_,trivial⟩⟩;show Sub (.sl 1 (List.take (k+1) (List.drop 0 (List.replicate (k+1) [IB]))) false) (.sl 1 ((List.replicate (if aP sets 1 4=3 then 2 else aP sets 1 4).toNat ([]:List Wy)).map bA) false);rw[cB,aI (by rw[cC];exact aC _),eK,Zg, ←e];exact HQ _
def AN(cf:Cf):Cf:={cf with lat:=cf.lat.take (min cf.lat.length 100),tape:=cf.tape.take (min cf.tape.length 100)}
theorem Iw{cf:Cf}(h:cf.ok):(AN cf).ok:=⟨by show (cf.lat.take _).length≤_;rw[aL];omega,by show (cf.tape.take _).length≤_;rw[aL];omega,pW (P:=λ x=>x≤4294967295) h.tp⟩
theorem Zb{cf:Cf}(h:cf.ok):(bC cf).okW:=⟨aN (Jy cf) (by decide),aN (Gk cf) (by decide),DC h.tp⟩
def Fk(cf:Cf)(prog:List Nat)(m:ByteArray):Co:=eQ (AN cf) (prog.take (min prog.length 100)) (m.extract 0 (min m.size 300))
theorem Km(cf:Cf)(prog:List Nat)(m:ByteArray):(Fk cf prog m).prog=(prog.take (min prog.length 100)).take (min (min prog.length 100) 64):=by
 have h:(prog.take (min prog.length 100)).length=min prog.length 100:=by rw[aL];omega
 show (prog.take (min prog.length 100)).take (min (prog.take (min prog.length 100)).length 64)=_;rw[h]
theorem Uf(cf:Cf)(prog:List Nat)(m:ByteArray):(Fk cf prog m).prog.length=min (min prog.length 100) 64:=by
 rw[Km,aL,aL];omega
theorem Oo{cf:Cf}{prog:List Nat}{m:ByteArray}(hX:(Fk cf prog m).ok 0):bV C0 23 [.agg (coL (Fk cf prog m))] (vB true):=by
 have h:=DB (Fk cf prog m) 0 hX (by decide);rw[show gH (Fk cf prog m)=true from Rz _ _ _ hX]at h;exact h
theorem Ug:bV C0 21 [.agg (guL Ts),.agg [.sl 2 (List.replicate 8 [vU 0,vU 0]) false,vU 0,.sl 0 [] true]] (vB true):=
 (Ut Ts Md).of_sub ⟨Sub.refl _,Sub.agg ⟨Sub.refl _,Sub.refl _,mQ 1 false,trivial⟩,trivial⟩
theorem Rx(cf:Cf)(prog:List Nat)(m:ByteArray)(hc:cf.ok)(hp:∀ x∈prog,x≤4294967295)(hl:prog.length≤9223372036854775807)(hm:m.size≤9223372036854775807):bV C0 3 [.agg (cfL cf false false),.sl 1 (prog.map dI) false,.v (.string m)] (vB true):=by
 refine dc1 (bV.intro c1Ok Tryz.func3 rfl rfl (by kernel_rfl) rfl ?_);have hpl:(prog.take (min prog.length 100)).length≤100:=by rw[aL];omega
 have hX:(Fk cf prog m).ok 0:=BL _ _ _ (Iw hc) (pW (P:=λ x=>x≤4294967295) hp);have hnb:0≤890000:=by decide
 have hnl:=Uf cf prog m;have hlen:((Fk cf prog m).prog.length != min (min prog.length 100) 64)=false:=by rw[hnl];simp
 have hCa:=BK (bC (AN cf)).sets (bC (AN cf)).ways;refine cSR<|rAl 0 rfl rfl<|oR 1 rfl<|rE 2<|cSR<|oR 2 rfl<|rW (vN prog.length) rfl (bJ dI prog)<|rW (vN (min prog.length 100)) rfl (wM prog.length 100)<|nW (.sl 1 ((prog.take (min prog.length 100)).map dI) false) rfl (uI (rL dI prog (min prog.length 100))) slT<|oR 1 rfl<|rE 8<|cSR<|oR 2 rfl<|rV (vN m.size) rfl<|rW (vN (min m.size 300)) rfl (wM m.size 300)<|nW (.v (.string (m.extract 0 (min m.size 300)))) rfl rfl (by refine⟨?_,?_,?_⟩<;>(first|exact aG _|decide|(apply Fg.2;exact omT)))<|oR 1 rfl<|rE 14<|bI<|AW rfl rfl<|oR 4 rfl<|rW (vN cf.lat.length) rfl (bJ fD cf.lat)<|rW (vN (min cf.lat.length 100)) rfl (wM cf.lat.length 100)<|nW (.sl 1 ((cf.lat.take (min cf.lat.length 100)).map fD) false) rfl (uI (rL fD cf.lat (min cf.lat.length 100))) slT<|oR 4 rfl<|rW (vN cf.tape.length) rfl (bJ dI cf.tape)<|rW (vN (min cf.tape.length 100)) rfl (wM cf.tape.length 100)<|nW (.sl 1 ((cf.tape.take (min cf.tape.length 100)).map dI) false) rfl (uI (rL dI cf.tape (min cf.tape.length 100))) slT<|oR 1 rfl<|rSt rfl<|oR 1 rfl<|rSt rfl<|rE 32<|And.intro (by kernel_rfl)<|cSR<|oR 3 rfl<|rCi rfl (MC (AN cf) (prog.take (min prog.length 100)) (m.extract 0 (min m.size 300)) (Iw hc) omT)<|oR 1 rfl<|rCi rfl (Uw (AN cf) (Iw hc))<|rAl 38 rfl rfl<|rAl 39 rfl rfl<|rSx 38 (coL (Fk cf prog m)) rfl rfl rfl<|rSt rfl<|rE 42<|cSR<|oR 2 rfl<|rW (vN (min prog.length 100)) rfl (qM dI (prog.take (min prog.length 100)) omT)<|rW (vN (min (min prog.length 100) 64)) rfl (wM (min prog.length 100) 64)<|nW (.sl 1 (((prog.take (min prog.length 100)).take (min (min prog.length 100) 64)).map dI) false) rfl (uI (rL dI (prog.take (min prog.length 100)) (min (min prog.length 100) 64))) slT<|oR 1 rfl<|rE 48<|bI<|cSR<|oR 2 rfl<|rW (vN (((Fk cf prog m).prog).length)) rfl (bJ dI ((Fk cf prog m).prog))<|oR 1 rfl<|rW (vN (min (min prog.length 100) 64)) rfl (qM dI ((prog.take (min prog.length 100)).take (min (min prog.length 100) 64)) omT)<|rW (vB ((((Fk cf prog m).prog).length) != (min (min prog.length 100) 64))) rfl (okB (neN _ _))<|rW (vB false) rfl (okB hlen)<|Zv (x:=vB true) (g:= !false) rfl rfl rfl rfl rfl rfl rfl (.inl rfl) rfl (λ hg=>YZ)<|gS rfl id<|cL rfl rfl rfl (by simp)<|rE 58<|aQ rfl (λ h1=>by exact absurd h1 (by decide)) (λ _=>?_);refine aY<|bI<|cSR<|oR 1 rfl<|rW (vN (min (min prog.length 100) 64)) rfl (qM dI ((prog.take (min prog.length 100)).take (min (min prog.length 100) 64)) omT)<|oR 1 rfl<|rE 61<|bE<|jG (κ:=Nat) (λ k=>⟨slotsF [(1,.sl 1 (((prog.take (min prog.length 100)).take (min (min prog.length 100) 64)).map dI) false),(2,.v (.string (m.extract 0 (min m.size 300)))),(7,.ptr 38 0),(8,.ptr 39 0),(59,vB (cJ false true (!true))),(61,vN (min (min prog.length 100) 64)),(62,vN k)],heapF [(0,.box [vI cf.mode,vI cf.width,vI cf.rob,vI cf.queue,vI cf.stores,vI cf.slots,vI cf.sets,vI cf.ways,.sl 1 ((cf.lat.take (min cf.lat.length 100)).map fD) false,vB cf.tables,.sl 1 ((cf.tape.take (min cf.tape.length 100)).map dI) false]),(38,.box (coL (Fk cf prog m))),(39,.box [vI ((bC (AN cf)).mode),vI ((bC (AN cf)).width),vI ((bC (AN cf)).rob),vI ((bC (AN cf)).queue),vI ((bC (AN cf)).stores),vI ((bC (AN cf)).slots),vI ((bC (AN cf)).sets),vI ((bC (AN cf)).ways),.sl 1 (((bC (AN cf)).lat).map fD) false,vB ((bC (AN cf)).tables),.sl 1 (((bC (AN cf)).tape).map dI) false])],61⟩) (λ k=>k≤(min (min prog.length 100) 64)) (λ k=>(min (min prog.length 100) 64) - k) 0 (λ s=>s) (Weak.of_lists (λ s=>s) wT wH rfl) (aE _) ?_;intro k hk;have hkn:k≤(min (min prog.length 100) 64):=hk;have hkB:k≤64:=by omega
 refine cSR<|rW (vB (decide (k<(min (min prog.length 100) 64)))) rfl (okB (ltN _ _))<|rE 62<|bI<|aQ rfl (λ h2=>?_) (λ h2=>?_)
 ·have h2p:=of_decide_eq_true h2;refine aY<|bI<|bE<|cSR<|oR 2 rfl<|rE 64<|cSR<|oR 3 rfl ?_;obtain⟨x1,hx1⟩:∃ y_,((Fk cf prog m).prog)[k]?=some y_:=⟨_,aA omT⟩;have hx1o:=hX.progo x1 (aB hx1);refine rIx (dI x1) (.dp 1 0 (dI x1)) rfl rfl (fM hx1) rfl<|oR 3 rfl ?_;obtain⟨x2,hx2⟩:∃ y_,((prog.take (min prog.length 100)).take (min (min prog.length 100) 64))[k]?=some y_:=⟨_,aA omT⟩;have hx2o:=(pW (pW hp)) x2 (aB hx2);refine rIx (dI x2) (.dp 1 0 (dI x2)) rfl rfl (fM hx2) rfl<|oR 1 rfl<|rW (vB (x1 != x2)) rfl (okB (neN _ _))<|rE 74<|aQ rfl (λ h3=>by exact absurd h3 (by rw[Km]at hx1;rw[Option.some.inj (hx1.symm.trans hx2)];simp)) (λ _=>?_);refine aY<|cRg ?_;have b1:k+1≤65:=aF hkB (aC 1);refine rW (vN (k+1)) rfl (okI (bL b1 rfl))<|oR 1 rfl<|rE 76 ?_;refine⟨k+1,λ s=>s,Weak.of_lists _ wT wH rfl,by omega,by show (min (min prog.length 100) 64) - (k+1)<(min (min prog.length 100) 64) - k;omega⟩
 ·have h2p:=aD h2;refine dR<|cSR<|oR 4 rfl<|rCi rfl (Zh (bC (AN cf)).sets (bC (AN cf)).ways)<|rAl 67 rfl rfl<|rSt rfl<|rE 69<|cSR<|oR 3 rfl<|rCi rfl (Us (bC (AN cf)) (Zb (Iw hc)))<|rW (vB true) rfl (rfl)<|gN rfl<|gS rfl id<|gN rfl<|gT (x:=vB true) (g:=true) rfl rfl rfl rfl hsT rfl rfl rfl (.inl rfl) rfl (λ hg=>Nj (vZ (bC (AN cf)).sets (bC (AN cf)).ways) (BK _ _))<|cL rfl rfl rfl (λ h=>h)<|rW (vB true) rfl (rfl)<|gN rfl<|gS rfl id<|gN rfl<|gT (x:=vB true) (g:=true) rfl rfl rfl rfl hsT rfl rfl rfl (.inl rfl) rfl (λ hg=>Nj (vZ (bC (AN cf)).sets (bC (AN cf)).ways) (BK _ _))<|cL rfl rfl rfl (λ h=>h)<|rW (vB true) rfl (rfl)<|gN rfl<|gS rfl id<|gFx (x:=.osl 88 0 8 false) (h':=upd _ 88 (some (.arr ((List.replicate 8 (⟨0,0⟩:Gs)).map gsL) 2))) rfl rfl rfl rfl rfl (NT (eK (f:=gsL) (a:=(⟨0,0⟩:Gs))).symm) (⟨by decide,by decide,by show ((8:Nat):Int)≤1000000;omega⟩)<|gB (x:=.agg [.osl 88 0 8 false,zU,.sl 0 ([]) true]) rfl rfl<|gT (x:=vB true) (g:=true) rfl rfl rfl rfl hsT rfl rfl rfl (.inr ⟨rfl,⟨tvT,⟨(by show 0+8≤((List.replicate 8 (⟨0,0⟩:Gs)).map gsL).length;exact omT),trivial,trivial,trivial⟩,trivial⟩⟩) rfl (λ hg=>Ug)<|cL rfl rfl rfl (λ h=>h)<|oR 1 rfl<|rE 93<|cSR<|oR 2 rfl<|rW (vI 0) rfl (rfl)<|oR 2 rfl<|rW (vI 0) rfl (rfl)<|rW (vI 0) rfl (rfl)<|oR 2 rfl<|rW (vI 0) rfl (rfl)<|rW (vI 0) rfl (rfl)<|oR 2 rfl<|rW (vI 0) rfl (rfl)<|rW (vI 0) rfl (rfl)<|oR 2 rfl<|rW (vI 0) rfl (rfl)<|rW (vI 0) rfl (rfl)<|oR 1 rfl<|rW (vI 0) rfl (rfl)<|rW (vI 0) rfl (rfl)<|oR 1 rfl<|rW (vI 0) rfl (rfl)<|rW (vI 0) rfl (rfl)<|oR 1 rfl<|rW (vI 0) rfl (rfl)<|rW (vI 0) rfl (rfl)<|oR 1 rfl<|rW (vI 0) rfl (rfl)<|rW (vI 0) rfl (rfl)<|oR 1 rfl<|rE 125<|bI<|cRg<|oR 1 rfl<|rW (vB true) rfl (rfl)<|gN rfl<|gBS (x:=vB true) rfl id (rfl)<|cL rfl rfl rfl (λ h=>h)<|rW (vB true) rfl (rfl)<|gN rfl<|gBS (x:=vI 1) rfl id (rfl)<|gBS (x:=vB true) rfl id (rfl)<|cL rfl rfl rfl (λ h=>h)<|rW (vB true) rfl (rfl)<|gN rfl<|gS rfl id<|gBS (x:=vB true) rfl id (rfl)<|cL rfl rfl rfl (λ h=>h)<|rW (vB true) rfl (rfl)<|gN rfl<|gS rfl id<|gBS (x:=vB true) rfl id (rfl)<|cL rfl rfl rfl (λ h=>h)<|rW (vB true) rfl (rfl)<|gN rfl<|gS rfl id<|gB (x:=.agg [zU,zU,zU,zU,zU,zU,zU,zU,zU,zU,zU,zU,zU,zU,zU,zU,zU,zU,zU,zU,zU,zU,zU,zU,zU,zU,zU,zU,zU,zU,zU,zU]) rfl rfl<|gBS (x:=vB true) rfl hsT (rfl)<|cL rfl rfl rfl (λ h=>h)<|rW (vB true) rfl (rfl)<|gN rfl<|gS rfl id<|gN rfl<|gT (x:=.v (.string (lK (m.extract 0 (min m.size 300))))) (g:=true) rfl rfl rfl rfl (λ h=>h) rfl rfl rfl (.inl rfl) rfl (λ hg=>Zf (m.extract 0 (min m.size 300)))<|gBS (x:=vB true) rfl hsT (okB (iL _))<|cL rfl rfl rfl (λ h=>h)<|rW (vB true) rfl (rfl)<|gN rfl<|gT (x:=vB true) (g:=true) rfl rfl rfl rfl (λ h=>h) rfl rfl rfl (.inl rfl) rfl (λ hg=>Oo hX)<|cL rfl rfl rfl (λ h=>h)<|oR 1 rfl<|rE 163<|cM ?_;exact fT rfl rfl
end Go.Proofs.YtlhofpglndhfaaaGreatDoor
