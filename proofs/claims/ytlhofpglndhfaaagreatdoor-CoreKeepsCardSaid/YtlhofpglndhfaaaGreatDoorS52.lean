/- Joined texts. -/
import Derived.Test.YtlhofpglndhfaaaGreatDoorS1
import Derived.Test.YtlhofpglndhfaaaGreatDoorS31
import Derived.Test.YtlhofpglndhfaaaGreatDoorS46
import Derived.Test.YtlhofpglndhfaaaGreatDoorS48
import Derived.Test.YtlhofpglndhfaaaGreatDoorS49
set_option linter.unusedVariables false
set_option linter.unusedSimpArgs false
namespace Go.Proofs.YtlhofpglndhfaaaGreatDoor
open Go.RowKit
theorem Fy(q:List Req)(k:Int)(line:Nat)(left:Int)(data:ByteArray):kE (wB q k line left data)=kE q+if k=4 then 0 else 1:=by
 unfold kE wB;rw[jR,aY];by_cases h:k=4<;>simp[h]
theorem MS(q:List Req):kE (dZ q).1≤kE q:=by
 cases q with
 |nil=>exact aC _
 |cons x r=>
  unfold dZ;dsimp only;split
  ·unfold kE;simp only[List.filter_cons];by_cases h:x.kind=4<;>simp[h]
  ·unfold kE;simp only[List.filter_cons];by_cases h:x.kind=4<;>simp[h]
structure Bd(f:Cf)(a:Nat)(c:Co):Prop where
 conf:c.conf=f
 rob:(c.rob.length:Int)≤f.rob
 fet:(c.fetched.length:Int)≤f.queue
 sto:(c.stores.length:Int)≤f.stores
 rd:(kE c.bus:Int)≤f.slots
 ret:c.retired.length=a
theorem bring_bus(c:Co)(line:Nat):((cJ c line).bus=c.bus∧(cJ c line).asked=c.asked)∨∃ l d,(cJ c line).bus=wB c.bus 4 l (jM c.conf c.asked) d∧(cJ c line).asked=wrap64 (c.asked+1):=by
 unfold cJ;rcases hB:gK c.data c.bus c.mem line (jM c.conf c.asked)with ⟨d,q,asked⟩;show (q=c.bus∧(if asked=true then wrap64 (c.asked+1)else c.asked)=c.asked)∨∃ l d,q=wB c.bus 4 l (jM c.conf c.asked) d∧(if asked=true then wrap64 (c.asked+1)else c.asked)=wrap64 (c.asked+1);unfold gK at hB;split at hB
 ·cases hB;exact .inl ⟨rfl,rfl⟩
 ·split at hB
  ·cases hB;exact .inl ⟨rfl,rfl⟩
  ·split at hB
   split at hB
   ·cases hB;exact .inr ⟨_,_,rfl,rfl⟩
   ·cases hB;exact .inl ⟨rfl,rfl⟩
theorem Ky(c:Co)(line:Nat):kE (cJ c line).bus≤kE c.bus:=by
 rcases bring_bus c line with ⟨h, -⟩|⟨l,d,h, -⟩
 ·rw[h];exact aC _
 ·rw[h,Fy,if_pos rfl];exact aC _
theorem MT(c:Co)(line:Nat):(cJ c line).conf=c.conf∧(cJ c line).rob=c.rob∧(cJ c line).fetched=c.fetched∧(cJ c line).stores=c.stores∧(cJ c line).retired=c.retired:=by
 rw[←pY];exact⟨rfl,rfl,rfl,rfl,rfl⟩
theorem Bd.bring{f:Cf}{a:Nat}{c:Co}(h:Bd f a c)(line:Nat):Bd f a (cJ c line):=by
 obtain⟨h1,h2,h3,h4,h5⟩:=MT c line;have:=Ky c line;exact⟨h1.trans h.conf,h2 ▸ h.rob,h3 ▸ h.fet,h4 ▸ h.sto,by have:=h.rd;omega,h5 ▸ h.ret⟩
theorem UJ{c:Co}{b:Bool}(h:pW c b=true):(kE c.bus:Int)<c.conf.slots:=by
 unfold pW at h;split at h
 ·exact of_decide_eq_true h
 ·have:=of_decide_eq_true h;omega
theorem Bd.ask{f:Cf}{a:Nat}{c:Co}(h:Bd f a c){k:Int}{b:Bool}(hr:pW c b=true∨k=4)(line:Nat)(data:ByteArray):Bd f a (iF c k line data):=by
 refine⟨h.conf,h.rob,h.fet,h.sto,?_,h.ret⟩;show ((kE (wB c.bus k line _ data):Nat):Int)≤_;rw[Fy];have h1:=h.rd;rcases hr with hr|hr
 ·have:=UJ hr;rw[h.conf]at this;split<;>omega
 ·rw[if_pos hr];omega
theorem RZ{f:Cf}{a:Nat}{c:Co}(h:Bd f a c):Bd f a (jK c):=by
 have hb:Bd f a (iZ c):=⟨h.conf,h.rob,h.fet,h.sto,by have:=MS c.bus;have:=h.rd;show ((kE (dZ c.bus).1:Nat):Int)≤_;omega,h.ret⟩;rw[iR];split
 ·unfold BR
  repeat' split
  ·exact⟨hb.conf,by show ((List.map _ _).length:Int)≤_;rw[aO];exact hb.rob,hb.fet,hb.sto,hb.rd,hb.ret⟩
  ·exact⟨hb.conf,hb.rob,hb.fet,hb.sto,hb.rd,hb.ret⟩
  ·exact hb.bring _
  ·exact⟨hb.conf,hb.rob,hb.fet,hb.sto,hb.rd,hb.ret⟩
  ·exact hb
 ·exact hb
theorem UK(l:List Ent)(i:Nat):(BP l i).length≤l.length:=by
 unfold BP;split
 ·rename_i e he;have:=(Db.1 he).1;rw[aY,aQ];simp;omega
 ·exact aC _
theorem Sa{f:Cf}{a:Nat}{c:Co}(h:Bd f a c)(hq:0≤f.queue):Bd f a (iE c):=by
 have hl:=lV c;unfold iE;split
 ·exact h
 ·split
  ·rename_i i _;exact⟨h.conf,by have:=UK (dC c) i;have:=h.rob;show ((BP (dC c) i).length:Int)≤_;omega,hq,h.sto,h.rd,h.ret⟩
  ·exact⟨h.conf,by have:=h.rob;show ((dC c).length:Int)≤_;omega,h.fet,h.sto,h.rd,h.ret⟩
theorem SY{f:Cf}{a:Nat}{c:Co}(h:Bd f a c)(s:Sp)(hs: ¬ (s.store=true∧(c.stores.length:Int)≥c.conf.stores)):Bd f (a+1) (bK c s):=by
 refine⟨h.conf,h.rob,h.fet,?_,h.rd,by show (c.retired++[s]).length=_;rw[aY,h.ret];rfl⟩;show (((match gE s with|some p=>c.stores++[p]|none=>c.stores).length:Nat):Int)≤_;split
 ·rename_i p hp;have hst:s.store=true:=by
   unfold gE at hp;split at hp
   ·cases hp
   ·rename_i q;cases hb:s.store with
    |true=>rfl
    |false=>exact absurd (.inl hb) q
  have h1: ¬ (c.stores.length:Int)≥c.conf.stores:=λ q=>hs ⟨hst,q⟩;rw[h.conf]at h1;rw[aY];show ((c.stores.length+1:Nat):Int)≤_;omega
 ·exact h.sto
theorem PV{f:Cf}{a:Nat}{c:Co}(h:Bd f a c)(e:Ent)(hs: ¬ ((aP e).store=true∧(c.stores.length:Int)≥c.conf.stores)):Bd f (a+1) (tF c e):=by
 have k:=SY h (aP e) hs;exact⟨k.conf,by have:=h.rob;show ((c.rob.drop 1).length:Int)≤_;rw[bA];omega,k.fet,k.sto,k.rd,k.ret⟩
theorem PW{f:Cf}{a:Nat}{c:Co}(h:Bd f a c)(e:Ent)(hs: ¬ ((aP e).store=true∧(c.stores.length:Int)≥c.conf.stores)):Bd f (a+1) (tG c e):=by
 have k:=(SY h (aP e) hs).bring (aP e).addr;rw[←pY]at k;exact⟨k.conf,by have:=h.rob;show ((c.rob.drop 1).length:Int)≤_;rw[bA];omega,k.fet,k.sto,k.rd,k.ret⟩
theorem AF{f:Cf}(h0:0≤f.rob∧0≤f.queue):∀ (n:Nat) (c:Co) (a:Nat),Bd f a c→∃ b,a≤b∧b≤a+n∧Bd f b (dV n c)
 |0,c,a,h=>⟨a,aC _,aC _,h⟩
 | n + 1,c,a,h=>by
  by_cases hz:c.halt≠0∨c.rob.length=0
  ·rw[jJ hz];exact⟨a,aC _,by omega,h⟩
  ·have hx:c.rob[0]?=some (c.rob[0]'omT):=aA omT;rw[eV omT (λ q=>hz (.inl q)) hx];split
   ·exact⟨a,aC _,by omega,h⟩
   ·split
    ·exact⟨a+1,by omega,by omega,⟨h.conf,h0.1,h0.2,h.sto,h.rd,by show (c.retired++[_]).length=_;rw[aY,h.ret];rfl⟩⟩
    ·split
     ·exact⟨a,aC _,by omega,h⟩
     ·rename_i hs;rw[iC];by_cases hk:kindOf (c.rob[0]'omT).i.op=3
      ·rw[rB hk];obtain⟨b,h1,h2,h3⟩:=AF h0 n _ _ (PW h _ hs);exact⟨b,by omega,by omega,h3⟩
      ·rw[rA hk];obtain⟨b,h1,h2,h3⟩:=AF h0 n _ _ (PV h _ hs);exact⟨b,by omega,by omega,h3⟩
theorem Bd.setE{f:Cf}{a:Nat}{c:Co}(h:Bd f a c)(i:Nat)(e:Ent):Bd f a (setE c i e):=⟨h.conf,by show ((c.rob.set i e).length:Int)≤_;rw[bV];exact h.rob,h.fet,h.sto,h.rd,h.ret⟩
theorem UL{f:Cf}{a:Nat}{c:Co}(h:Bd f a c)(i:Nat):Bd f a (lZ c i):=by
 unfold lZ
 cases c.rob[i]? with
 |none=>exact h
 |some e=>
  dsimp only
  repeat' split
  all_goals first|exact h|exact h.setE _ _|(rename_i q;exact (h.ask (.inl q.1) _ _).setE _ _)
theorem Sb{f:Cf}{a:Nat}{c:Co}(h:Bd f a c)(i:Nat):Bd f a (gF c i):=by
 unfold gF
 cases c.rob[i]? with
 |none=>exact h
 | some e=>
  dsimp only;split
  ·exact h.setE _ _
  ·split
   ·exact UL (h.setE _ _) i
   ·exact h.setE _ _
theorem Jh{f:Cf}{a:Nat}:∀ (p:List Nat) (c:Co),Bd f a c→Bd f a (p.foldl gF c)
 |[],_,h=>h
 |i::p,_,h=>Jh p _ (Sb h i)
theorem PX{f:Cf}{a:Nat}{c:Co}(h:Bd f a c):Bd f a (fJ c):=by
 unfold fJ;split
 ·exact h
 ·exact Jh _ c h
theorem FA{f:Cf}{a:Nat}:∀ (n:Nat) (c:Co),Bd f a c→Bd f a (jL n c)
 |0,_,h=>h
 | n+1,c,h=>by
  by_cases h0:(c.rob.length:Int)≥c.conf.rob∨c.fetched.length=0
  ·rw[tH h0];exact h
  ·have hx:c.fetched[0]?=some (c.fetched[0]'omT):=aA omT;have e:=wM (n:=n+1) (k:=0) omT (λ q=>h0 (.inl q)) hx;rw[show n+1 - (0+1)=n by omega,show n+1 - 0=n+1 by omega]at e;rw[←e];have hc:=h.conf;refine FA n _ ⟨h.conf,?_,?_,h.sto,h.rd,h.ret⟩
   ·show ((c.rob++[_]).length:Int)≤_;rw[aY];show ((c.rob.length+1:Nat):Int)≤_;rw[hc]at h0;omega
   ·have:=h.fet;show ((c.fetched.drop 1).length:Int)≤_;rw[bA];omega
theorem PY{f:Cf}{a:Nat}{c:Co}(h:Bd f a c):Bd f a (iY c):=by
 unfold iY;split
 ·exact h
 ·exact FA _ c h
theorem Em{f:Cf}{a:Nat}:∀ (n:Nat) (c:Co),Bd f a c→Bd f a (eB n c)
 |0,_,h=>h
 | n +1,c,h=>by
  by_cases h0:c.stop=true∨(c.fetched.length:Int)≥c.conf.queue
  ·rw[rC h0];exact h
  ·have hl:((c.fetched.length+1:Nat):Int)≤f.queue:=by have:=h.conf;rw[this]at h0;omega
   by_cases hf:(fetchP c.prog c.fetch).isSome=false
   ·rw[tI omT h0 hf];exact⟨h.conf,h.rob,by show ((c.fetched++[_]).length:Int)≤_;rw[aY];exact hl,h.sto,h.rd,h.ret⟩
   ·by_cases hw:(bE c.words (lineOf c.fetch)).2.isSome=false
    ·rw[oP omT h0 hf hw];split
     ·rename_i q;exact h.ask (.inl q.2) _ _
     ·exact h
    ·have e:=uN (n:=n+1) (k:=0) omT h0 hf hw;rw[show n+1 - (0+1)=n by omega,show n+1 - 0=n+1 by omega]at e;rw[←e];refine Em n _ ?_;have hb:∀ w,(cN (gP c) w).1.conf=c.conf∧(cN (gP c) w).1.rob=c.rob∧(cN (gP c) w).1.fetched=c.fetched∧(cN (gP c) w).1.stores=c.stores∧(cN (gP c) w).1.bus=c.bus∧(cN (gP c) w).1.retired=c.retired:=by
      intro w;unfold cN
      repeat' split
      all_goals exact⟨rfl,rfl,rfl,rfl,rfl,rfl⟩
     obtain⟨b1,b2,b3,b4,b5,b6⟩:=hb (fetchW c.prog c.fetch);refine⟨b1.trans h.conf,?_,?_,?_,?_,?_⟩
     ·show (((cN (gP c) (fetchW c.prog c.fetch)).1.rob.length:Nat):Int)≤_;rw[b2];exact h.rob
     ·show ((((cN (gP c) (fetchW c.prog c.fetch)).1.fetched++[_]).length:Nat):Int)≤_;rw[b3,aY];exact hl
     ·show (((cN (gP c) (fetchW c.prog c.fetch)).1.stores.length:Nat):Int)≤_;rw[b4];exact h.sto
     ·show ((kE (cN (gP c) (fetchW c.prog c.fetch)).1.bus:Nat):Int)≤_;rw[b5];exact h.rd
     ·show (cN (gP c) (fetchW c.prog c.fetch)).1.retired.length=_;rw[b6];exact h.ret
theorem MU{f:Cf}{a:Nat}{c:Co}(h:Bd f a c):Bd f a (dW c):=by
 unfold dW;split
 ·exact h
 ·exact Em _ c h
theorem PZ{f:Cf}{a:Nat}{c:Co}(h:Bd f a c):Bd f a (pZ c):=by
 have h1:Bd f a (aW c):=by
  refine⟨h.conf,h.rob,h.fet,?_,h.rd,h.ret⟩;have:=h.sto;show (((pV c.stores c.data).1.length:Nat):Int)≤_;unfold pV
  repeat' split
  all_goals first|omega|(rename_i hs _;rw[hs]at this;simp at this⊢;omega)|(rename_i hs;simp[hs]at this⊢;omega)|(simp at this⊢;omega)
 have hA:∀ {d:Co},Bd f a d→Bd f a (oG d):=λ {d} k=>by
  unfold oG;split
  ·exact k
  ·split
   ·rename_i q;exact k.ask (.inl q.2) _ _
   ·exact k
 have hB:∀ {d:Co},Bd f a d→Bd f a (kP d):=λ {d} k=>by
  unfold kP;split
  ·exact k
  ·unfold mQ;split
   ·split
    ·rename_i w _ _;have q:=k.ask (k:=4) (b:=true) (.inr rfl) w.line w.data;exact⟨q.conf,q.rob,q.fet,q.sto,q.rd,q.ret⟩
    ·exact k
   ·exact k
 rw[jW];split
 ·exact hB (hA h1)
 ·exact hB h1
theorem Qa{f:Cf}(h0:0≤f.rob∧0≤f.queue){c:Co}{a:Nat}(h:Bd f a c):∃ b,a≤b∧b≤a+f.width.toNat∧Bd f b (dP c):=by
 unfold dP;split
 ·have hs:Bd f a (s0 c):=⟨h.conf,h.rob,h.fet,h.sto,h.rd,h.ret⟩;have hw:=Sa (RZ hs) h0.2;obtain⟨b,h1,h2,h3⟩:=AF h0 (iE (jK (s0 c))).conf.width.toNat _ a hw;rw[hw.conf]at h2;exact⟨b,h1,h2,PZ (MU (PY (PX h3)))⟩
 ·exact⟨a,aC _,by omega,h⟩
set_option maxRecDepth 100000
set_option maxHeartbeats 4000000
def Kz(c:Cf)(k:Nat):List Int:=(c.lat.take (min k 64)).map λ n=>aV n 1 8
def AG(c:Cf)(k:Nat):List Nat:=c.tape.take (min k 64)
theorem Sc{c:Cf}{k:Nat}(h:k≤c.lat.length):(Kz c k).length=min k 64:=by unfold Kz;rw[aO,aQ];omega
theorem Qb{c:Cf}{k:Nat}(h:k≤c.tape.length):(AG c k).length=min k 64:=by unfold AG;rw[aQ];omega
theorem Ji{c:Cf}{k:Nat}{x:Int}(h:c.lat[k]?=some x)(hk:k<64):Kz c k++[aV x 1 8]=Kz c (k+1):=by
 unfold Kz;rw[show min k 64=k by omega,show min (k+1) 64=k+1 by omega,bX,h];simp
theorem Qc{c:Cf}{k:Nat}(hk: ¬ k<64):Kz c k=Kz c (k+1):=by unfold Kz;rw[show min k 64=min (k+1) 64 by omega]
theorem FB{c:Cf}{k:Nat}{x:Nat}(h:c.tape[k]?=some x)(hk:k<64):AG c k++[x]=AG c (k+1):=by
 unfold AG;rw[show min k 64=k by omega,show min (k+1) 64=k+1 by omega,bX,h];simp
theorem MV{c:Cf}{k:Nat}(hk: ¬ k<64):AG c k=AG c (k+1):=by unfold AG;rw[show min k 64=min (k+1) 64 by omega]
theorem LT{c:Cf}{k:Nat}(h:c.lat.length≤k):Kz c k=(bB c).lat:=by
 unfold Kz bB;show _=(c.lat.take 64).map _;congr 1;by_cases h2:c.lat.length≤64
 ·rw[aN (by omega),aN h2]
 ·rw[show min k 64=64 by omega]
theorem Jj{c:Cf}{k:Nat}(h:c.tape.length≤k):AG c k=(bB c).tape:=by
 unfold AG bB;show _=c.tape.take 64;by_cases h2:c.tape.length≤64
 ·rw[aN (by omega),aN h2]
 ·rw[show min k 64=64 by omega]
theorem EK(n lo hi:Int)(h:lo≤hi):bY C0 44 [vI n,vI lo,vI hi] (vI (aV n lo hi)):=by
 refine bY.intro c0Ok Tryz.func44 rfl rfl (by kernel_rfl) rfl<|aE<|aG rfl<|oR 1 rfl<|rE 1<|aE<|aE<|aG rfl<|oR 2 rfl<|rOk (x:=vB (decide (n<lo))) rfl rfl rfl<|rE 4 ?_;refine aU rfl (λ h1=>?_) (λ h1=>?_)
 ·have h1p:=of_decide_eq_true h1;refine aE<|aG rfl<|oR 2 rfl<|rE 6<|cT ?_;exact eW rfl trivial rfl (congrArg vI (by unfold aV;(repeat' split)<;>omega))
 ·have h1p:=aD h1;refine aZ<|aE<|aE<|aG rfl<|oR 2 rfl<|rOk (x:=vB (decide (n>hi))) rfl rfl rfl<|rE 7 ?_;refine aU rfl (λ h2=>?_) (λ h2=>?_)
  ·have h2p:=of_decide_eq_true h2;refine aE<|aG rfl<|oR 2 rfl<|rE 9<|cT ?_;exact eW rfl trivial rfl (congrArg vI (by unfold aV;(repeat' split)<;>omega))
  ·have h2p:=aD h2;refine aZ<|aE<|aG rfl<|oR 2 rfl<|rE 9<|cT ?_;exact eW rfl trivial rfl (congrArg vI (by unfold aV;(repeat' split)<;>omega))
theorem Sd(c:Cf)(hc:c.ok):bY C0 16 [.agg (cfL c false false)] (.agg (cfL (bB c) false false)):=by
 refine dc1 (bY.intro c1Ok Tryz.func16 rfl rfl (by kernel_rfl) rfl ?_);refine aE<|aG rfl<|rAl 0 rfl rfl<|rAl 1 rfl rfl<|rE 2<|aE<|aG rfl<|oR 2 rfl<|rCl rfl (.inl rfl) (EK c.mode 0 2 (by decide))<|oR 2 rfl<|rCl rfl (.inl rfl) (EK c.width 1 2 (by decide))<|oR 2 rfl<|rCl rfl (.inl rfl) (EK c.rob 2 8 (by decide))<|oR 2 rfl<|rCl rfl (.inl rfl) (EK c.queue 1 4 (by decide))<|oR 2 rfl ?_;refine rCl rfl (.inl rfl) (EK c.stores 1 4 (by decide))<|oR 2 rfl<|rCl rfl (.inl rfl) (EK c.slots 2 6 (by decide))<|oR 2 rfl<|rCl rfl (.inl rfl) (EK c.sets 1 4 (by decide))<|oR 2 rfl<|rCl rfl (.inl rfl) (EK c.ways 1 2 (by decide))<|oR 2 rfl<|rOk (x:=.agg [vI (aV c.mode 0 2),vI (aV c.width 1 2),vI (aV c.rob 2 8),vI (aV c.queue 1 4),vI (aV c.stores 1 4),vI (aV c.slots 2 6),vI (aV c.sets 1 4),vI (aV c.ways 1 2),.sl 0 ([]) true,vB c.tables,.sl 0 ([]) true]) rfl rfl rfl<|rAl 29 rfl rfl<|rSt rfl<|rE 31 ?_;refine Kg (κ:=Unit) (λ u_=>⟨cI [(1,.ptr 0 0),(2,.ptr 1 0),(3,.ptr 29 0)],heapF [(0,.box [vI c.mode,vI c.width,vI c.rob,vI c.queue,vI c.stores,vI c.slots,vI c.sets,vI c.ways,.sl 1 (c.lat.map fD) false,vB c.tables,.sl 1 (c.tape.map eJ) false]),(1,.box [vI 0,vI 0,vI 0,vI 0,vI 0,vI 0,vI 0,vI 0,.sl 0 ([]) true,vB false,.sl 0 ([]) true]),(29,.box [vI (aV c.mode 0 2),vI (aV c.width 1 2),vI (aV c.rob 2 8),vI (aV c.queue 1 4),vI (aV c.stores 1 4),vI (aV c.slots 2 6),vI ((bB c).sets),vI (aV c.ways 1 2),.sl 0 ([]) true,vB c.tables,.sl 0 ([]) true])],31⟩) (λ u_=>True) ?_ ?_
 ·refine aE<|aG rfl<|oR 2 rfl<|rOk (x:=vB ((aV c.sets 1 4)==3)) rfl rfl rfl<|rE 34 ?_;refine aU rfl (λ h1=>?_) (λ h1=>?_)
  ·have h1p:=kX h1;refine aG rfl<|oR 1 rfl<|rSt rfl<|rE 36 ?_;refine .mk _ (.refl _) ⟨(),λ s=>s,Weak.of_lists (λ s=>s) wT ⟨⟨rfl,rfl,rfl⟩,⟨rfl,rfl,rfl⟩,⟨rfl,(by rw[show (bB c).sets=2 from if_pos (by simpa using h1)];rfl),rfl⟩,trivial⟩ rfl,rfl,trivial⟩
  ·have h1p:=kY h1;refine aZ ?_;refine .mk _ (.refl _) ⟨(),λ s=>s,Weak.of_lists (λ s=>s) wT ⟨⟨rfl,rfl,rfl⟩,⟨rfl,rfl,rfl⟩,⟨rfl,(by rw[show (bB c).sets=aV c.sets 1 4 from if_neg (by simpa using h1)];rfl),rfl⟩,trivial⟩ rfl,rfl,trivial⟩
 ·intro u_ _;refine Kg (κ:=Unit) (λ u_=>⟨cI [(1,.ptr 0 0),(2,.ptr 1 0),(3,.ptr 29 0)],heapF [(0,.box [vI c.mode,vI c.width,vI c.rob,vI c.queue,vI c.stores,vI c.slots,vI c.sets,vI c.ways,.sl 1 (c.lat.map fD) false,vB c.tables,.sl 1 (c.tape.map eJ) false]),(1,.box [vI 0,vI 0,vI 0,vI 0,vI 0,vI 0,vI 0,vI 0,.sl 0 ([]) true,vB false,.sl 0 ([]) true]),(29,.box [vI (aV c.mode 0 2),vI (aV c.width 1 2),vI (aV c.rob 2 8),vI (aV c.queue 1 4),vI (aV c.stores 1 4),vI (aV c.slots 2 6),vI ((bB c).sets),vI (aV c.ways 1 2),.sl 1 (((bB c).lat).map fD) false,vB c.tables,.sl 0 ([]) true])],31⟩) (λ u_=>True) ?_ ?_
  ·refine aE<|aG rfl<|oR 2 rfl<|rOk (x:=vN c.lat.length) rfl rfl (bQ fD c.lat)<|oR 1 rfl<|rE 35<|bI<|kZ (κ:=Nat) (λ k=>match k with|0=>⟨cI [(1,.ptr 0 0),(2,.ptr 1 0),(3,.ptr 29 0),(40,.sl 1 (c.lat.map fD) false),(41,vN c.lat.length),(42,vN 0)],heapF [(0,.box [vI c.mode,vI c.width,vI c.rob,vI c.queue,vI c.stores,vI c.slots,vI c.sets,vI c.ways,.sl 1 (c.lat.map fD) false,vB c.tables,.sl 1 (c.tape.map eJ) false]),(1,.box [vI 0,vI 0,vI 0,vI 0,vI 0,vI 0,vI 0,vI 0,.sl 0 ([]) true,vB false,.sl 0 ([]) true]),(29,.box [vI (aV c.mode 0 2),vI (aV c.width 1 2),vI (aV c.rob 2 8),vI (aV c.queue 1 4),vI (aV c.stores 1 4),vI (aV c.slots 2 6),vI ((bB c).sets),vI (aV c.ways 1 2),.sl 0 ([]) true,vB c.tables,.sl 0 ([]) true])],101⟩|k+1=>⟨cI [(1,.ptr 0 0),(2,.ptr 1 0),(3,.ptr 29 0),(40,.sl 1 (c.lat.map fD) false),(41,vN c.lat.length),(42,vN (k+1))],heapF [(0,.box [vI c.mode,vI c.width,vI c.rob,vI c.queue,vI c.stores,vI c.slots,vI c.sets,vI c.ways,.sl 1 (c.lat.map fD) false,vB c.tables,.sl 1 (c.tape.map eJ) false]),(1,.box [vI 0,vI 0,vI 0,vI 0,vI 0,vI 0,vI 0,vI 0,.sl 0 ([]) true,vB false,.sl 0 ([]) true]),(29,.box [vI (aV c.mode 0 2),vI (aV c.width 1 2),vI (aV c.rob 2 8),vI (aV c.queue 1 4),vI (aV c.stores 1 4),vI (aV c.slots 2 6),vI ((bB c).sets),vI (aV c.ways 1 2),.osl 100 0 (min (k+1) 64) false,vB c.tables,.sl 0 ([]) true]),(100,.arr ((Kz c (k+1)).map fD) 1)],101⟩) (λ k=>k≤c.lat.length) (λ k=>c.lat.length - k) 0 (λ s=>s) (Weak.of_lists (λ s=>s) wT wH rfl) (aF _) ?_;intro k hk;rcases k with _|k
   ·refine aE<|aG rfl<|rOk (x:=vB (decide (0<c.lat.length))) rfl rfl (okB (ltN _ _))<|rE 102<|aE ?_;refine aU rfl (λ h2=>?_) (λ h2=>?_)
    ·have h2p:=of_decide_eq_true h2;refine aZ<|aE<|bI<|aE<|aG rfl<|oR 1 rfl ?_;obtain⟨x,hx⟩:∃ y_,c.lat[0]?=some y_:=⟨_,aA omT⟩;refine Fb (fD x) (x:=.dp 1 0 (fD x)) rfl rfl rfl (⟨by decide,gJ hx⟩) rfl<|oR 3 rfl<|rE 107<|aE<|aG rfl<|oR 1 rfl<|rOk (x:=vB (decide (0<64))) rfl rfl (okB (ltN _ _))<|rE 109 ?_;refine aU rfl (λ _=>?_) (λ h3=>by exact absurd h3 (by decide));refine aG rfl<|oR 3 rfl<|rCl rfl (.inl rfl) (EK x 1 8 (by decide))<|rOk (x:=.sl 1 ([[vI (aV x 1 8)]]) true) rfl rfl rfl<|rFx (x:=.osl 114 0 1 false) (h':=upd _ 114 (some (.arr (([(aV x 1 8:Int)]).map fD) 1))) rfl rfl (DR omT) (⟨rfl,by exact omT,by exact omT,trivial⟩)<|oR 1 rfl<|rSt rfl<|rE 117<|aG rfl ?_;have b1:0+1≤9223372036854775807:=by have:=hc.lat;have:=hc.tape;omega
     refine rOk (x:=vN (0+1)) rfl rfl (okI (bS (show 0+1≤9223372036854775807 by have:=hc.lat;have:=hc.tape;omega) rfl))<|oR 1 rfl<|rE 119 ?_;refine⟨0+1,λ i=>match i with|100=>114|i=>i,Weak.of_lists (λ i=>match i with|100=>114|i=>i) wT ⟨⟨rfl,rfl,rfl⟩,⟨rfl,rfl,rfl⟩,⟨rfl,rfl,rfl⟩,⟨rfl,(congrArg (λ z:List Int=>some (Blk.arr (z.map fD) 1)) (Ji hx (by omega))),rfl⟩,trivial⟩ rfl,by have:=of_decide_eq_true h2;omega,by have:=of_decide_eq_true h2;show c.lat.length - (0+1)<c.lat.length - (0);omega⟩
    ·have h2p:=aD h2;refine eA ?_;refine .mk _ (.step none (Ghost.of_lists (l:=[(1,.ptr 0 0),(2,.ptr 1 0),(3,.ptr 29 0)]) (hp:=[(0,.box [vI c.mode,vI c.width,vI c.rob,vI c.queue,vI c.stores,vI c.slots,vI c.sets,vI c.ways,.sl 1 (c.lat.map fD) false,vB c.tables,.sl 1 (c.tape.map eJ) false]),(1,.box [vI 0,vI 0,vI 0,vI 0,vI 0,vI 0,vI 0,vI 0,.sl 0 ([]) true,vB false,.sl 0 ([]) true]),(29,.box [vI (aV c.mode 0 2),vI (aV c.width 1 2),vI (aV c.rob 2 8),vI (aV c.queue 1 4),vI (aV c.stores 1 4),vI (aV c.slots 2 6),vI ((bB c).sets),vI (aV c.ways 1 2),.sl 1 ([]) false,vB c.tables,.sl 0 ([]) true])]) trivial rfT ⟨⟨trivial,_,rfl,.refl _⟩,⟨trivial,_,rfl,.refl _⟩,⟨trivial,_,rfl,LeB.boxL ⟨.refl _,.refl _,.refl _,.refl _,.refl _,.refl _,.refl _,.refl _,.nil 1 false,.refl _,.refl _,trivial⟩⟩,trivial⟩) (.refl _)) ⟨(),λ s=>s,Weak.of_lists (λ s=>s) wT ⟨⟨rfl,rfl,rfl⟩,⟨rfl,rfl,rfl⟩,⟨rfl,(by rw[←LT (c:=c) (k:=0) (by have:=aD h2;omega)];rfl),rfl⟩,trivial⟩ rfl,rfl,trivial⟩
   ·have hkB:k+1≤9223372036854775807:=by have:=hc.lat;omega
    have hKl:=Sc (c:=c) (k:=k+1) hk;refine aE<|aG rfl<|rOk (x:=vB (decide ((k+1)<c.lat.length))) rfl rfl (okB (ltN _ _))<|rE 102<|aE ?_;refine aU rfl (λ h4=>?_) (λ h4=>?_)
    ·have h4p:=of_decide_eq_true h4;refine aZ<|aE<|bI<|aE<|aG rfl<|oR 1 rfl ?_;obtain⟨x,hx⟩:∃ y_,c.lat[(k+1)]?=some y_:=⟨_,aA omT⟩;refine Fb (fD x) (x:=.dp 1 0 (fD x)) rfl rfl rfl (⟨aI _,gJ hx⟩) rfl<|oR 3 rfl<|rE 107<|aE<|aG rfl<|oR 1 rfl<|rOk (x:=vB (decide ((k+1)<64))) rfl rfl (okB (ltN _ _))<|rE 109 ?_;refine aU rfl (λ h5=>?_) (λ h5=>?_)
     ·have h5p:=of_decide_eq_true h5;refine aG rfl<|oR 3 rfl<|rCl rfl (.inl rfl) (EK x 1 8 (by decide))<|rOk (x:=.sl 1 ([[vI (aV x 1 8)]]) true) rfl rfl rfl<|rFx (x:=.osl 114 0 (min (k+1) 64+1) false) (h':=upd (upd _ 100 none) 114 (some (.arr (((Kz c (k+1))++([(aV x 1 8:Int)])).map fD) 1))) rfl rfl (gU fD (Kz c (k+1)) ([(aV x 1 8:Int)]) omT omT) (⟨by exact omT,by exact omT,trivial⟩)<|oR 1 rfl<|rSt rfl<|rE 117<|aG rfl ?_;have b2:k+1+1≤9223372036854775807:=by have:=hc.lat;have:=hc.tape;omega
      refine rOk (x:=vN (k+1+1)) rfl rfl (okI (bS (show k+1+1≤9223372036854775807 by have:=hc.lat;have:=hc.tape;omega) rfl))<|oR 1 rfl<|rE 119 ?_;refine⟨(k+1)+1,λ i=>match i with|100=>114|i=>i,Weak.of_lists (λ i=>match i with|100=>114|i=>i) wT ⟨⟨rfl,rfl,rfl⟩,⟨rfl,rfl,rfl⟩,⟨rfl,(by rw[show min (k+1) 64+1=min (k+1+1) 64 by omega];rfl),rfl⟩,⟨rfl,(congrArg (λ z:List Int=>some (Blk.arr (z.map fD) 1)) (Ji hx (by omega))),rfl⟩,trivial⟩ rfl,by have:=of_decide_eq_true h4;omega,by have:=of_decide_eq_true h4;show c.lat.length - ((k+1)+1)<c.lat.length - (k+1);omega⟩
     ·have h5p:=aD h5;refine aZ<|aG rfl ?_;have b3:k+1+1≤9223372036854775807:=by have:=hc.lat;have:=hc.tape;omega
      refine rOk (x:=vN (k+1+1)) rfl rfl (okI (bS (show k+1+1≤9223372036854775807 by have:=hc.lat;have:=hc.tape;omega) rfl))<|oR 1 rfl<|rE 111 ?_;refine⟨(k+1)+1,λ i=>i,Weak.of_lists (λ i=>i) wT ⟨⟨rfl,rfl,rfl⟩,⟨rfl,rfl,rfl⟩,⟨rfl,(by rw[show min (k+1) 64=min (k+1+1) 64 by have:=aD h5;omega];rfl),rfl⟩,⟨rfl,(congrArg (λ z:List Int=>some (Blk.arr (z.map fD) 1)) (Qc (c:=c) (by have:=aD h5;omega))),rfl⟩,trivial⟩ rfl,by have:=of_decide_eq_true h4;omega,by have:=of_decide_eq_true h4;show c.lat.length - ((k+1)+1)<c.lat.length - (k+1);omega⟩
    ·have h4p:=aD h4;refine eA ?_;refine .mk _ (.step (some (100,1,(Kz c (k+1)).map fD)) (Ghost.of_lists (l:=[(1,.ptr 0 0),(2,.ptr 1 0),(3,.ptr 29 0)]) (hp:=[(0,.box [vI c.mode,vI c.width,vI c.rob,vI c.queue,vI c.stores,vI c.slots,vI c.sets,vI c.ways,.sl 1 (c.lat.map fD) false,vB c.tables,.sl 1 (c.tape.map eJ) false]),(1,.box [vI 0,vI 0,vI 0,vI 0,vI 0,vI 0,vI 0,vI 0,.sl 0 ([]) true,vB false,.sl 0 ([]) true]),(29,.box [vI (aV c.mode 0 2),vI (aV c.width 1 2),vI (aV c.rob 2 8),vI (aV c.queue 1 4),vI (aV c.stores 1 4),vI (aV c.slots 2 6),vI ((bB c).sets),vI (aV c.ways 1 2),.sl 1 ((Kz c (k+1)).map fD) false,vB c.tables,.sl 0 ([]) true])]) rfl rfT ⟨⟨rfl,_,rfl,.refl _⟩,⟨rfl,_,rfl,.refl _⟩,⟨rfl,_,rfl,LeB.boxL ⟨.refl _,.refl _,.refl _,.refl _,.refl _,.refl _,.refl _,.refl _,lD hKl,.refl _,.refl _,trivial⟩⟩,trivial⟩) (.refl _)) ⟨(),λ s=>s,Weak.of_lists (λ s=>s) wT ⟨⟨rfl,rfl,rfl⟩,⟨rfl,rfl,rfl⟩,⟨rfl,(by rw[←LT (c:=c) (k:=k+1) (by have:=aD h4;omega)];rfl),rfl⟩,trivial⟩ rfl,rfl,trivial⟩
  ·intro u_ _;refine Kg (κ:=Unit) (λ u_=>⟨cI [(1,.ptr 0 0),(2,.ptr 1 0),(3,.ptr 29 0)],heapF [(0,.box [vI c.mode,vI c.width,vI c.rob,vI c.queue,vI c.stores,vI c.slots,vI c.sets,vI c.ways,.sl 1 (c.lat.map fD) false,vB c.tables,.sl 1 (c.tape.map eJ) false]),(1,.box [vI 0,vI 0,vI 0,vI 0,vI 0,vI 0,vI 0,vI 0,.sl 0 ([]) true,vB false,.sl 0 ([]) true]),(29,.box [vI (aV c.mode 0 2),vI (aV c.width 1 2),vI (aV c.rob 2 8),vI (aV c.queue 1 4),vI (aV c.stores 1 4),vI (aV c.slots 2 6),vI ((bB c).sets),vI (aV c.ways 1 2),.sl 1 (((bB c).lat).map fD) false,vB c.tables,.sl 1 (((bB c).tape).map eJ) false])],31⟩) (λ u_=>True) ?_ ?_
   ·refine aE<|aG rfl<|oR 2 rfl<|rOk (x:=vN c.tape.length) rfl rfl (bQ eJ c.tape)<|oR 1 rfl<|rE 35<|bI<|kZ (κ:=Nat) (λ k=>match k with|0=>⟨cI [(1,.ptr 0 0),(2,.ptr 1 0),(3,.ptr 29 0),(58,.sl 1 (c.tape.map eJ) false),(59,vN c.tape.length),(60,vN 0)],heapF [(0,.box [vI c.mode,vI c.width,vI c.rob,vI c.queue,vI c.stores,vI c.slots,vI c.sets,vI c.ways,.sl 1 (c.lat.map fD) false,vB c.tables,.sl 1 (c.tape.map eJ) false]),(1,.box [vI 0,vI 0,vI 0,vI 0,vI 0,vI 0,vI 0,vI 0,.sl 0 ([]) true,vB false,.sl 0 ([]) true]),(29,.box [vI (aV c.mode 0 2),vI (aV c.width 1 2),vI (aV c.rob 2 8),vI (aV c.queue 1 4),vI (aV c.stores 1 4),vI (aV c.slots 2 6),vI ((bB c).sets),vI (aV c.ways 1 2),.sl 1 (((bB c).lat).map fD) false,vB c.tables,.sl 0 ([]) true])],101⟩|k+1=>⟨cI [(1,.ptr 0 0),(2,.ptr 1 0),(3,.ptr 29 0),(58,.sl 1 (c.tape.map eJ) false),(59,vN c.tape.length),(60,vN (k+1))],heapF [(0,.box [vI c.mode,vI c.width,vI c.rob,vI c.queue,vI c.stores,vI c.slots,vI c.sets,vI c.ways,.sl 1 (c.lat.map fD) false,vB c.tables,.sl 1 (c.tape.map eJ) false]),(1,.box [vI 0,vI 0,vI 0,vI 0,vI 0,vI 0,vI 0,vI 0,.sl 0 ([]) true,vB false,.sl 0 ([]) true]),(29,.box [vI (aV c.mode 0 2),vI (aV c.width 1 2),vI (aV c.rob 2 8),vI (aV c.queue 1 4),vI (aV c.stores 1 4),vI (aV c.slots 2 6),vI ((bB c).sets),vI (aV c.ways 1 2),.sl 1 (((bB c).lat).map fD) false,vB c.tables,.osl 100 0 (min (k+1) 64) false]),(100,.arr ((AG c (k+1)).map eJ) 1)],101⟩) (λ k=>k≤c.tape.length) (λ k=>c.tape.length - k) 0 (λ s=>s) (Weak.of_lists (λ s=>s) wT wH rfl) (aF _) ?_;intro k hk;rcases k with _|k
    ·refine aE<|aG rfl<|rOk (x:=vB (decide (0<c.tape.length))) rfl rfl (okB (ltN _ _))<|rE 102<|aE ?_;refine aU rfl (λ h6=>?_) (λ h6=>?_)
     ·have h6p:=of_decide_eq_true h6;refine aZ<|aE<|bI<|aE<|aG rfl<|oR 1 rfl ?_;obtain⟨x,hx⟩:∃ y_,c.tape[0]?=some y_:=⟨_,aA omT⟩;have hxo:=hc.tp x (aB hx);refine Fb (eJ x) (x:=.dp 1 0 (eJ x)) rfl rfl rfl (⟨by decide,gJ hx⟩) rfl<|oR 3 rfl<|rE 107<|aE<|aG rfl<|oR 1 rfl<|rOk (x:=vB (decide (0<64))) rfl rfl (okB (ltN _ _))<|rE 109 ?_;refine aU rfl (λ _=>?_) (λ h7=>by exact absurd h7 (by decide));refine aG rfl<|oR 3 rfl<|rOk (x:=.sl 1 ([[vU x]]) true) rfl rfl rfl<|rFx (x:=.osl 113 0 1 false) (h':=upd _ 113 (some (.arr (([x]).map eJ) 1))) rfl rfl (DR omT) (⟨rfl,by exact omT,by exact omT,trivial⟩)<|oR 1 rfl<|rSt rfl<|rE 116<|aG rfl ?_;have b4:0+1≤9223372036854775807:=by have:=hc.lat;have:=hc.tape;omega
      refine rOk (x:=vN (0+1)) rfl rfl (okI (bS (show 0+1≤9223372036854775807 by have:=hc.lat;have:=hc.tape;omega) rfl))<|oR 1 rfl<|rE 118 ?_;refine⟨0+1,λ i=>match i with|100=>113|i=>i,Weak.of_lists (λ i=>match i with|100=>113|i=>i) wT ⟨⟨rfl,rfl,rfl⟩,⟨rfl,rfl,rfl⟩,⟨rfl,rfl,rfl⟩,⟨rfl,(congrArg (λ z:List Nat=>some (Blk.arr (z.map eJ) 1)) (FB hx (by omega))),rfl⟩,trivial⟩ rfl,by have:=of_decide_eq_true h6;omega,by have:=of_decide_eq_true h6;show c.tape.length - (0+1)<c.tape.length - (0);omega⟩
     ·have h6p:=aD h6;refine eA ?_;refine .mk _ (.step none (Ghost.of_lists (l:=[(1,.ptr 0 0),(2,.ptr 1 0),(3,.ptr 29 0)]) (hp:=[(0,.box [vI c.mode,vI c.width,vI c.rob,vI c.queue,vI c.stores,vI c.slots,vI c.sets,vI c.ways,.sl 1 (c.lat.map fD) false,vB c.tables,.sl 1 (c.tape.map eJ) false]),(1,.box [vI 0,vI 0,vI 0,vI 0,vI 0,vI 0,vI 0,vI 0,.sl 0 ([]) true,vB false,.sl 0 ([]) true]),(29,.box [vI (aV c.mode 0 2),vI (aV c.width 1 2),vI (aV c.rob 2 8),vI (aV c.queue 1 4),vI (aV c.stores 1 4),vI (aV c.slots 2 6),vI ((bB c).sets),vI (aV c.ways 1 2),.sl 1 (((bB c).lat).map fD) false,vB c.tables,.sl 1 ([]) false])]) trivial rfT ⟨⟨trivial,_,rfl,.refl _⟩,⟨trivial,_,rfl,.refl _⟩,⟨trivial,_,rfl,LeB.boxL ⟨.refl _,.refl _,.refl _,.refl _,.refl _,.refl _,.refl _,.refl _,.refl _,.refl _,.nil 1 false,trivial⟩⟩,trivial⟩) (.refl _)) ⟨(),λ s=>s,Weak.of_lists (λ s=>s) wT ⟨⟨rfl,rfl,rfl⟩,⟨rfl,rfl,rfl⟩,⟨rfl,(by rw[←Jj (c:=c) (k:=0) (by have:=aD h6;omega)];rfl),rfl⟩,trivial⟩ rfl,rfl,trivial⟩
    ·have hkB:k+1≤9223372036854775807:=by have:=hc.tape;omega
     have hKl:=Qb (c:=c) (k:=k+1) hk;refine aE<|aG rfl<|rOk (x:=vB (decide ((k+1)<c.tape.length))) rfl rfl (okB (ltN _ _))<|rE 102<|aE ?_;refine aU rfl (λ h8=>?_) (λ h8=>?_)
     ·have h8p:=of_decide_eq_true h8;refine aZ<|aE<|bI<|aE<|aG rfl<|oR 1 rfl ?_;obtain⟨x,hx⟩:∃ y_,c.tape[(k+1)]?=some y_:=⟨_,aA omT⟩;have hxo:=hc.tp x (aB hx);refine Fb (eJ x) (x:=.dp 1 0 (eJ x)) rfl rfl rfl (⟨aI _,gJ hx⟩) rfl<|oR 3 rfl<|rE 107<|aE<|aG rfl<|oR 1 rfl<|rOk (x:=vB (decide ((k+1)<64))) rfl rfl (okB (ltN _ _))<|rE 109 ?_;refine aU rfl (λ h9=>?_) (λ h9=>?_)
      ·have h9p:=of_decide_eq_true h9;refine aG rfl<|oR 3 rfl<|rOk (x:=.sl 1 ([[vU x]]) true) rfl rfl rfl<|rFx (x:=.osl 113 0 (min (k+1) 64+1) false) (h':=upd (upd _ 100 none) 113 (some (.arr (((AG c (k+1))++([x])).map eJ) 1))) rfl rfl (gU eJ (AG c (k+1)) ([x]) omT omT) (⟨by exact omT,by exact omT,trivial⟩)<|oR 1 rfl<|rSt rfl<|rE 116<|aG rfl ?_;have b5:k+1+1≤9223372036854775807:=by have:=hc.lat;have:=hc.tape;omega
       refine rOk (x:=vN (k+1+1)) rfl rfl (okI (bS (show k+1+1≤9223372036854775807 by have:=hc.lat;have:=hc.tape;omega) rfl))<|oR 1 rfl<|rE 118 ?_;refine⟨(k+1)+1,λ i=>match i with|100=>113|i=>i,Weak.of_lists (λ i=>match i with|100=>113|i=>i) wT ⟨⟨rfl,rfl,rfl⟩,⟨rfl,rfl,rfl⟩,⟨rfl,(by rw[show min (k+1) 64+1=min (k+1+1) 64 by omega];rfl),rfl⟩,⟨rfl,(congrArg (λ z:List Nat=>some (Blk.arr (z.map eJ) 1)) (FB hx (by omega))),rfl⟩,trivial⟩ rfl,by have:=of_decide_eq_true h8;omega,by have:=of_decide_eq_true h8;show c.tape.length - ((k+1)+1)<c.tape.length - (k+1);omega⟩
      ·have h9p:=aD h9;refine aZ<|aG rfl ?_;have b6:k+1+1≤9223372036854775807:=by have:=hc.lat;have:=hc.tape;omega
       refine rOk (x:=vN (k+1+1)) rfl rfl (okI (bS (show k+1+1≤9223372036854775807 by have:=hc.lat;have:=hc.tape;omega) rfl))<|oR 1 rfl<|rE 111 ?_;refine⟨(k+1)+1,λ i=>i,Weak.of_lists (λ i=>i) wT ⟨⟨rfl,rfl,rfl⟩,⟨rfl,rfl,rfl⟩,⟨rfl,(by rw[show min (k+1) 64=min (k+1+1) 64 by have:=aD h9;omega];rfl),rfl⟩,⟨rfl,(congrArg (λ z:List Nat=>some (Blk.arr (z.map eJ) 1)) (MV (c:=c) (by have:=aD h9;omega))),rfl⟩,trivial⟩ rfl,by have:=of_decide_eq_true h8;omega,by have:=of_decide_eq_true h8;show c.tape.length - ((k+1)+1)<c.tape.length - (k+1);omega⟩
     ·have h8p:=aD h8;refine eA ?_;refine .mk _ (.step (some (100,1,(AG c (k+1)).map eJ)) (Ghost.of_lists (l:=[(1,.ptr 0 0),(2,.ptr 1 0),(3,.ptr 29 0)]) (hp:=[(0,.box [vI c.mode,vI c.width,vI c.rob,vI c.queue,vI c.stores,vI c.slots,vI c.sets,vI c.ways,.sl 1 (c.lat.map fD) false,vB c.tables,.sl 1 (c.tape.map eJ) false]),(1,.box [vI 0,vI 0,vI 0,vI 0,vI 0,vI 0,vI 0,vI 0,.sl 0 ([]) true,vB false,.sl 0 ([]) true]),(29,.box [vI (aV c.mode 0 2),vI (aV c.width 1 2),vI (aV c.rob 2 8),vI (aV c.queue 1 4),vI (aV c.stores 1 4),vI (aV c.slots 2 6),vI ((bB c).sets),vI (aV c.ways 1 2),.sl 1 (((bB c).lat).map fD) false,vB c.tables,.sl 1 ((AG c (k+1)).map eJ) false])]) rfl rfT ⟨⟨rfl,_,rfl,.refl _⟩,⟨rfl,_,rfl,.refl _⟩,⟨rfl,_,rfl,LeB.boxL ⟨.refl _,.refl _,.refl _,.refl _,.refl _,.refl _,.refl _,.refl _,.refl _,.refl _,lD hKl,trivial⟩⟩,trivial⟩) (.refl _)) ⟨(),λ s=>s,Weak.of_lists (λ s=>s) wT ⟨⟨rfl,rfl,rfl⟩,⟨rfl,rfl,rfl⟩,⟨rfl,(by rw[←Jj (c:=c) (k:=k+1) (by have:=aD h8;omega)];rfl),rfl⟩,trivial⟩ rfl,rfl,trivial⟩
   ·intro u_ _;refine aE<|aG rfl<|oR 1 rfl<|rSt rfl<|rE 33<|cT ?_;exact eW rfl rcT rfl rfl
theorem XQ{a b:Nat}(h:b≤a)(hb:a≤890000):IntKind.wrap .i64 ((a:Int) - (b:Int))=((a - b:Nat):Int):=by
 rw[show (a:Int) - (b:Int)=((a - b:Nat):Int) by omega];exact bS (B:=890000) omT rfl
theorem yB(n lo hi:Int)(h:0≤lo∧lo≤hi):0≤aV n lo hi:=by unfold aV;(repeat' split)<;>omega
theorem Wv(c:Cf)(prog:List Nat)(m:ByteArray):Bd (bB c) 0 (vE c prog m):=
 ⟨rfl,yB _ 2 8 (by decide),yB _ 1 4 (by decide),yB _ 1 4 (by decide),yB _ 2 6 (by decide),rfl⟩
theorem Jg(c:Cf):0≤(bB c).rob∧0≤(bB c).queue:=⟨yB _ 2 8 (by decide),yB _ 1 4 (by decide)⟩
theorem SX{f:Cf}(h0:0≤f.rob∧0≤f.queue){X:Co}{a:Nat}(h:Bd f a X):∀ k,Bd f (dJ X k).retired.length (dJ X k)
 |0=>by have:=h.ret;subst this;exact h
 |k+1=>by
  obtain⟨b,_,_,h3⟩:=Qa h0 (SX h0 h k);have:=h3.ret;subst this;exact h3
theorem Xq{f:Cf}(h0:0≤f.rob∧0≤f.queue){c:Co}(h:Bd f c.retired.length c):Bd f (dP c).retired.length (dP c)∧c.retired.length≤(dP c).retired.length∧(dP c).retired.length≤c.retired.length+f.width.toNat:=by
 obtain⟨b,h1,h2,h3⟩:=Qa h0 h;have:=h3.ret;subst this;exact⟨h3,h1,h2⟩
theorem MR(cf:Cf)(prog:List Nat)(m:ByteArray)(n:Int)(hc:cf.ok)(hp:∀ x∈prog,x≤4294967295)(hl:prog.length≤9223372036854775807)(hm:m.size≤9223372036854775807):bY C0 8 [.agg (cfL cf false false),.sl 1 (prog.map eJ) false,.v (.string m),vI n] (vB true):=by
 refine dc1 (bY.intro c1Ok Tryz.func8 rfl rfl (by kernel_rfl) rfl ?_);obtain⟨B,hBe⟩:∃ B,B=upTo n 200:=⟨_,rfl⟩;have hBi:(if (200:Int)<max n 0 then (200:Int)else max n 0)=(B:Int):=hBe ▸ Kx n 200;have hB:B≤200:=hBe ▸ Kw _ _;have hl2:(Ek prog).length≤1000:=by unfold Ek;rw[aQ];omega
 have hp2:=sW (P:=λ x=>x≤4294967295) (n:=min prog.length 64) hp;obtain⟨X,hXe⟩:∃ X,X=vE cf (Ek prog) (Kv m):=⟨_,rfl⟩;have hX:X.ok 0:=hXe ▸ Gn cf _ _ hc hp2;have hX0:Bd (bB cf) 0 X:=hXe ▸ Wv _ _ _;have hnb:2010≤890000:=by decide
 refine aE<|aG rfl<|rAl 0 rfl rfl<|oR 1 rfl<|rE 2<|aE<|aG rfl<|oR 2 rfl<|rCi rfl (Ss prog m hl hm)<|oR 5 rfl<|rE 10<|aE<|aG rfl<|oR 1 rfl<|rCi rfl (Sd cf hc)<|rAl 12 rfl rfl ?_;refine rSt rfl<|rE 14<|aE<|aG rfl<|oR 3 rfl<|rCl (x:=.agg (coL X)) rfl (.inl rfl) ((show bY C0 15 [.agg (cfL cf false false),.sl 1 ((Ek prog).map eJ) false,.v (.string (Kv m))] (.agg (coL X))from hXe ▸ SF cf (Ek prog) (Kv m) hc omT))<|rAl 18 rfl rfl<|rSx 18 (coL X) rfl rfl rfl<|rE 20<|aE<|aE<|aG rfl<|oR 1 rfl<|rW (vI (max n 0)) rfl (okI (PU n 0))<|rW (vN B) rfl (okI hBi)<|oR 1 rfl ?_;refine rE 24<|bI<|kZ (κ:=Nat) (λ k=>⟨cI [(9,.ptr 12 0),(10,.ptr 18 0),(29,vN B),(30,vN k)],heapF [(0,.box [vI cf.mode,vI cf.width,vI cf.rob,vI cf.queue,vI cf.stores,vI cf.slots,vI cf.sets,vI cf.ways,.sl 1 (cf.lat.map fD) false,vB cf.tables,.sl 1 (cf.tape.map eJ) false]),(12,.box [vI ((bB cf).mode),vI ((bB cf).width),vI ((bB cf).rob),vI ((bB cf).queue),vI ((bB cf).stores),vI ((bB cf).slots),vI ((bB cf).sets),vI ((bB cf).ways),.sl 1 (((bB cf).lat).map fD) false,vB ((bB cf).tables),.sl 1 (((bB cf).tape).map eJ) false]),(18,.box (coL (dJ X k)))],24⟩) (λ k=>k≤B) (λ k=>B - k) 0 (λ s=>s) (Weak.of_lists (λ s=>s) wT wH rfl) (aF _) ?_;intro k hk;have hkn:k≤B:=hk;have hkB:k≤200:=by omega
 have hS:=Xq (Jg cf) (SX (Jg cf) hX0 k);have hso:(dP (dJ X k)).ok (0+10 * k+10):=Ic (vM hX k omT) omT;have hnb:0+10 * k+10≤890000:=by omega
 have s1:=hS.1.rob;have s2:=hS.1.fet;have s3:=hS.1.sto;have s4:=hS.1.rd;have s5:=hS.2.1;have s6:=hS.2.2;have s7:0≤(bB cf).width:=yB _ 1 2 (by decide);refine aE<|aG rfl<|rW (vB (decide (k<B))) rfl (okB (ltN _ _))<|rE 25<|aE ?_;refine aU rfl (λ h1=>?_) (λ h1=>?_)
 ·have h1p:=of_decide_eq_true h1;refine aZ<|aE<|bI<|aE<|aG rfl<|oR 2 rfl<|rW (vN (((dJ X k).retired).length)) rfl (bQ spL ((dJ X k).retired))<|oR 1 rfl<|rE 29<|aE<|aG rfl<|oR 1 rfl<|rCi rfl (NV (dJ X k) (0+10 * k) (vM hX k omT) omT)<|rSx 18 (coL (dP (dJ X k))) rfl rfl rfl<|rE 32<|aE ?_;refine aG rfl<|oR 1 rfl<|rE 33<|aE<|aE<|aG rfl<|oR 2 rfl<|rW (vN (((dP (dJ X k)).bus).length)) rfl (bQ rqL ((dP (dJ X k)).bus))<|oR 1 rfl<|rE 37<|bI<|kZ (κ:=Nat) (λ j=>⟨cI [(9,.ptr 12 0),(10,.ptr 18 0),(29,vN B),(30,vN k),(31,vB (decide (k<B))),(32,.ptr 18 63),(33,.sl 9 (((dJ X k).retired).map spL) false),(34,vN (((dJ X k).retired).length)),(11,vN (((dJ X k).retired).length)),(35,.agg (coL (dJ X k))),(36,.agg (coL (dP (dJ X k)))),(37,.ptr 18 55),(38,.sl 4 (((dP (dJ X k)).bus).map rqL) false),(39,vN (((dP (dJ X k)).bus).length)),(12,vN (kE ((dP (dJ X k)).bus.take j))),(40,vN j)],heapF [(0,.box [vI cf.mode,vI cf.width,vI cf.rob,vI cf.queue,vI cf.stores,vI cf.slots,vI cf.sets,vI cf.ways,.sl 1 (cf.lat.map fD) false,vB cf.tables,.sl 1 (cf.tape.map eJ) false]),(12,.box [vI ((bB cf).mode),vI ((bB cf).width),vI ((bB cf).rob),vI ((bB cf).queue),vI ((bB cf).stores),vI ((bB cf).slots),vI ((bB cf).sets),vI ((bB cf).ways),.sl 1 (((bB cf).lat).map fD) false,vB ((bB cf).tables),.sl 1 (((bB cf).tape).map eJ) false]),(18,.box (coL (dP (dJ X k))))],37⟩) (λ j=>j≤((dP (dJ X k)).bus).length) (λ j=>((dP (dJ X k)).bus).length - j) 0 (λ s=>s) (Weak.of_lists (λ s=>s) wT wH rfl) (aF _) ?_;intro j hj;have hjn:j≤((dP (dJ X k)).bus).length:=hj;have hjB:j≤900000:=by have:=hso.bus;omega
  have hrB:kE ((dP (dJ X k)).bus.take j)≤900000:=aL (LJ _) (by rw[aQ];have:=hso.bus;omega);refine aE<|aG rfl<|rW (vB (decide (j<(((dP (dJ X k)).bus).length)))) rfl (okB (ltN _ _))<|rE 38<|aE ?_;refine aU rfl (λ h2=>?_) (λ h2=>?_)
  ·have h2p:=of_decide_eq_true h2;refine aZ<|aE<|bI<|aE<|aG rfl ?_;obtain⟨x,hx⟩:∃ y_,((dP (dJ X k)).bus)[j]?=some y_:=⟨_,aA omT⟩;have hxo:=hso.buso x (aB hx);refine rIx (rqL x) (.dp 4 0 (rqL x)) rfl rfl (gJ hx) rfl<|oR 1 rfl<|rAl 40 rfl rfl<|rSt rfl<|rE 42<|aE<|aG rfl<|oR 2 rfl<|rV (vB (x.kind != 4)) rfl<|rE 45 ?_;refine aU rfl (λ h3=>?_) (λ h3=>?_)
   ·have h3p:=vA h3;refine aG rfl<|oR 1 rfl ?_;have b1:(kE ((dP (dJ X k)).bus.take j))+1≤900001:=aH hrB (aC 1);refine rW (vN ((kE ((dP (dJ X k)).bus.take j))+1)) rfl (okI (bS b1 rfl))<|oR 1 rfl<|rE 48<|aG rfl ?_;have b2:j+1≤900001:=aH hjB (aC 1);refine rW (vN (j+1)) rfl (okI (bS b2 rfl))<|oR 1 rfl<|rE 50 ?_;refine⟨j+1,λ s=>s,Weak.of_lists _ ⟨⟨rfl,rfl⟩,⟨rfl,rfl⟩,⟨rfl,rfl⟩,⟨rfl,rfl⟩,⟨rfl,rfl⟩,⟨rfl,rfl⟩,⟨rfl,rfl⟩,⟨rfl,rfl⟩,⟨rfl,rfl⟩,⟨rfl,rfl⟩,⟨rfl,rfl⟩,⟨rfl,rfl⟩,⟨rfl,rfl⟩,⟨rfl,rfl⟩,⟨(congrArg (λ z:Nat=>AV.v (.int .i64 (z:Int))) (by rw[Ag hx];have q:=h3;simp at q;simp[q])),rfl⟩,⟨rfl,rfl⟩,trivial⟩ wH rfl,by omega,by show ((dP (dJ X k)).bus).length - (j+1)<((dP (dJ X k)).bus).length - j;omega⟩
   ·have h3p:=vC h3;refine aZ<|aG rfl ?_;have b3:j+1≤900001:=aH hjB (aC 1);refine rW (vN (j+1)) rfl (okI (bS b3 rfl))<|oR 1 rfl<|rE 47 ?_;refine⟨j+1,λ s=>s,Weak.of_lists _ ⟨⟨rfl,rfl⟩,⟨rfl,rfl⟩,⟨rfl,rfl⟩,⟨rfl,rfl⟩,⟨rfl,rfl⟩,⟨rfl,rfl⟩,⟨rfl,rfl⟩,⟨rfl,rfl⟩,⟨rfl,rfl⟩,⟨rfl,rfl⟩,⟨rfl,rfl⟩,⟨rfl,rfl⟩,⟨rfl,rfl⟩,⟨rfl,rfl⟩,⟨(congrArg (λ z:Nat=>AV.v (.int .i64 (z:Int))) (by rw[Ag hx];have q:=h3;simp at q;simp[q])),rfl⟩,⟨rfl,rfl⟩,trivial⟩ wH rfl,by omega,by show ((dP (dJ X k)).bus).length - (j+1)<((dP (dJ X k)).bus).length - j;omega⟩
  ·have h2p:=aD h2;refine eA<|aE<|aG rfl<|oR 2 rfl<|rW (vN (((dP (dJ X k)).rob).length)) rfl (bQ enL ((dP (dJ X k)).rob))<|oR 2 rfl<|rV (vB (decide (((((dP (dJ X k)).rob).length:Nat):Int)>((bB cf).rob)))) rfl<|oR 1 rfl<|gN rfl<|gS rfl id<|gBS (x:=vN (((dP (dJ X k)).fetched).length)) rfl id (bQ ftL ((dP (dJ X k)).fetched))<|gN rfl<|gS rfl id<|gBS (x:=vB (decide (((((dP (dJ X k)).fetched).length:Nat):Int)>((bB cf).queue)))) rfl hsT rfl<|cH rfl rfl rfl (by simp)<|oR 1 rfl ?_;refine gN rfl<|gS rfl id<|gBS (x:=vN (((dP (dJ X k)).stores).length)) rfl id (bQ ptL ((dP (dJ X k)).stores))<|gN rfl<|gS rfl id<|gBS (x:=vB (decide (((((dP (dJ X k)).stores).length:Nat):Int)>((bB cf).stores)))) rfl hsT rfl<|cH rfl rfl rfl (by simp)<|oR 1 rfl<|gN rfl<|gN rfl<|gS rfl id<|gBS (x:=vB (decide (((kE ((dP (dJ X k)).bus.take j):Nat):Int)>((bB cf).slots)))) rfl hsT rfl<|cH rfl rfl rfl (by simp)<|oR 1 rfl<|gN rfl<|gS rfl id ?_;refine gBS (x:=vN (((dP (dJ X k)).retired).length)) rfl id (bQ spL ((dP (dJ X k)).retired))<|gN rfl<|gBS (x:=vN ((dP (dJ X k)).retired.length - (dJ X k).retired.length)) rfl hsT (okI (XQ hS.2.1 (aL hso.ret hnb)))<|gN rfl<|gS rfl id<|gBS (x:=vB (decide ((((dP (dJ X k)).retired.length - (dJ X k).retired.length:Nat):Int)>((bB cf).width)))) rfl hsT rfl<|cH rfl rfl rfl (by simp)<|oR 1 rfl<|gN rfl<|gS rfl id<|gBS (x:=vN (((dP (dJ X k)).retired).length)) rfl id (bQ spL ((dP (dJ X k)).retired))<|gN rfl<|gBS (x:=vB (decide ((((dP (dJ X k)).retired).length)<(((dJ X k).retired).length)))) rfl hsT (okB (ltN _ _))<|cH rfl rfl rfl (by simp)<|rE 83 ?_;refine aU rfl (λ h4=>by have z:=h4;rw[aN (by have:=aD h2;omega)]at z;simp[c2o]at z;omega) (λ _=>?_);refine aZ<|aG rfl ?_;have b4:k+1≤201:=aH hkB (aC 1);refine rW (vN (k+1)) rfl (okI (bS b4 rfl))<|oR 1 rfl<|rE 85 ?_;refine⟨k+1,λ s=>s,Weak.of_lists _ wT wH rfl,by omega,by show B - (k+1)<B - k;omega⟩
 ·have h1p:=aD h1;refine eA<|aE<|aG rfl<|rCi rfl (Ib)<|oR 1 rfl<|rE 27<|cT ?_;exact fT rfl rfl
end Go.Proofs.YtlhofpglndhfaaaGreatDoor
