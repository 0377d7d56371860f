/- Joined texts. -/
import Derived.Test.YtlhofpglndhfaaaGreatDoorS301
import Derived.Test.YtlhofpglndhfaaaGreatDoorS328
import Derived.Test.YtlhofpglndhfaaaGreatDoorS336
set_option linter.unusedVariables false
set_option linter.unusedSimpArgs false
namespace Go.Proofs.YtlhofpglndhfaaaGreatDoor
open Go.RowKit
structure CnCnt(dd q g x:Int)(c:Co):Prop where
 ak:c.asked=dd+c.bus.length
 aq:0≤c.asked∧c.asked≤q
 gl:g≤c.guessed∧0≤c.guessed∧c.guessed≤q
 nx:x≤c.next∧0≤c.next∧c.next≤q
 bl:∀ y∈c.bus,0<y.left∧y.left≤8
theorem CnCnt.mono{dd q r g x:Int}{c:Co}(h:CnCnt dd q g x c)(hq:q≤r):CnCnt dd r g x c:=⟨h.ak,⟨h.aq.1,by have:=h.aq.2;omega⟩,⟨h.gl.1,h.gl.2.1,by have:=h.gl.2.2;omega⟩,⟨h.nx.1,h.nx.2.1,by have:=h.nx.2.2;omega⟩,h.bl⟩
theorem CnCnt.same{dd q g x:Int}{c d:Co}(h:CnCnt dd q g x c)(h1:d.asked=c.asked)(h2:d.bus=c.bus)(h3:d.guessed=c.guessed)(h4:d.next=c.next):CnCnt dd q g x d:=⟨by rw[h1,h2];exact h.ak,by rw[h1];exact h.aq,by rw[h3];exact h.gl,by rw[h4];exact h.nx,by rw[h2];exact h.bl⟩
theorem Ys{x q:Int}(h:0≤x∧x≤q)(hq:q≤9000000):wrap64 (x+1)=x+1:=XU omT omT
theorem ZT(c:Cf)(k:Int):jM c k≤8:=by
 have hm:∀ x∈(bB c).lat,x≤8:=λ x hx=>by
  obtain⟨y,_,rfl⟩:=rK.1 hx;show aV y 1 8≤8;unfold aV;(repeat' split)<;>omega
 unfold jM;generalize (bB c).lat=l at hm
 cases l with
 |nil=>show (1:Int)≤8;decide
 |cons a l=>
  show (a::l).getD ((max k 0).toNat % (a::l).length) 1≤8;rw[bP]
  cases h:(a::l)[(max k 0).toNat % (a::l).length]? with
  |none=>show (1:Int)≤8;decide
  |some x=>exact hm x (aB h)
theorem YO{q:List Req}(h:∀ y∈q,0<y.left∧y.left≤8)(k:Int)(line:Nat){left:Int}(hl:left≤8)(data:ByteArray):∀ y∈wB q k line left data,0<y.left∧y.left≤8:=λ y hy=>by
 rcases al_List_mem_append.1 hy with r|r
 ·exact h y r
 ·rw[tM.1 r];show 0<max left 1∧max left 1≤8;omega
theorem Zj(q:List Req)(k:Int)(line:Nat)(left:Int)(data:ByteArray):(wB q k line left data).length=q.length+1:=by unfold wB;rw[aY];rfl
theorem CnCnt.ask{dd q g x:Int}{c:Co}(h:CnCnt dd q g x c)(hq:q≤8000000)(k:Int)(line:Nat)(data:ByteArray):CnCnt dd (q+1) g x (iF c k line data):=by
 have hw:=Ys h.aq omT;have h1:=h.aq;have h2:=h.ak;refine⟨?_,?_,(h.mono omT).gl,(h.mono omT).nx,YO h.bl _ _ (ZT _ _) _⟩
 ·show wrap64 (c.asked+1)=dd+((wB c.bus k line _ data).length:Nat);rw[hw,Zj];omega
 ·show 0≤wrap64 (c.asked+1)∧wrap64 (c.asked+1)≤q+1;rw[hw];omega
theorem YJ(c:Co)(line:Nat):(cJ c line).guessed=c.guessed∧(cJ c line).next=c.next:=by rw[←pY];exact⟨rfl,rfl⟩
theorem CnCnt.bring{dd q g x:Int}{c:Co}(h:CnCnt dd q g x c)(hq:q≤8000000)(line:Nat):CnCnt dd (q+1) g x (cJ c line):=by
 obtain⟨b1,b2⟩:=YJ c line;rcases bring_bus c line with ⟨h1,h2⟩|⟨l,d,h1,h2⟩
 ·exact (h.same h2 h1 b1 b2).mono omT
 ·have k:=h.ask hq 4 l d;exact k.same h2 h1 b1 b2
theorem Zk{q:List Req}(h:∀ y∈q,0<y.left∧y.left≤8):(dZ q).1.length=q.length - (if (dZ q).2.2=true then 1 else 0)∧(∀ y∈(dZ q).1,0<y.left∧y.left≤8)∧((dZ q).2.2=true→0<q.length):=by
 cases q with
 |nil=>exact⟨rfl,λ y hy=>(List.not_mem_nil hy).elim,λ z=>by cases z⟩
 | cons y r=>
  have hy:=h y (bO ..);have hw2:wrap64 (y.left - 1)=y.left - 1:=XU omT omT;unfold dZ;dsimp only;split
  ·rename_i hw;refine⟨rfl,λ z hz=>?_,λ z=>by cases z⟩;rcases al_List_mem_cons.1 hz with rfl|hz
   ·show 0<wrap64 (y.left - 1)∧wrap64 (y.left - 1)≤8;omega
   ·exact h z (bZ _ hz)
  ·exact⟨by simp,λ z hz=>h z (bZ _ hz),λ _=>by simp⟩
def Yk(q:List Req):Nat:=if (dZ q).2.2=true then 1 else 0
theorem Zl{dd q g x:Int}{c:Co}(h:CnCnt dd q g x c)(hq:q≤8000000):CnCnt (dd+Yk c.bus) (q+1) g x (jK c):=by
 obtain⟨t1,t2,t3⟩:=Zk h.bl;have hb:CnCnt (dd+Yk c.bus) q g x (iZ c):=by
  refine⟨?_,h.aq,h.gl,h.nx,t2⟩;show c.asked=dd+Yk c.bus+((dZ c.bus).1.length:Nat);rw[t1,h.ak];unfold Yk;by_cases z:(dZ c.bus).2.2=true
  ·have:=t3 z;rw[if_pos z];omega
  ·rw[if_neg z];omega
 rw[iR];split
 ·unfold BR
  repeat' split
  all_goals first|exact hb.bring hq _|(refine CnCnt.mono (q:=q) ?_ omT;first|exact hb|exact hb.same rfl rfl rfl rfl)
 ·exact hb.mono omT
theorem Zm{dd q g x:Int}{c:Co}(h:CnCnt dd q g x c):CnCnt dd q g x (iE c):=by
 unfold iE;split
 ·exact h
 ·split<;>exact h.same rfl rfl rfl rfl
theorem XX{dd g x:Int}:∀ (n:Nat) (q:Int) (c:Co),q+n≤8000000→CnCnt dd q g x c→CnCnt dd (q+n) g x (dV n c)
 |0,q,c,_,h=>h.mono omT
 | n + 1,q,c,hq,h=>by
  by_cases hz:c.halt≠0∨c.rob.length=0
  ·rw[jJ hz];exact h.mono omT
  ·have hx:c.rob[0]?=some (c.rob[0]'omT):=aA omT;rw[eV omT (λ r=>hz (.inl r)) hx];split
   ·exact h.mono omT
   ·split
    ·refine CnCnt.mono (q:=q) ?_ omT;exact h.same rfl rfl rfl rfl
    ·split
     ·exact h.mono omT
     ·rw[iC,show q+((n+1:Nat):Int)=(q+1)+(n:Nat) by omega];have hp:CnCnt dd q g x (bK c (aP (c.rob[0]'omT))):=h.same rfl rfl rfl rfl;by_cases hk:kindOf (c.rob[0]'omT).i.op=3
      ·rw[rB hk];have k:=hp.bring omT (aP (c.rob[0]'omT)).addr;rw[←pY]at k;refine XX n _ _ omT ?_;exact k.same rfl rfl rfl rfl
      ·rw[rA hk];refine XX n _ _ omT (CnCnt.mono (q:=q) ?_ omT);exact hp.same rfl rfl rfl rfl
theorem ZH{dd q g x:Int}{c:Co}(h:CnCnt dd q g x c)(hq:q≤8000000)(i:Nat):CnCnt dd (q+1) g x (lZ c i):=by
 have hm:=h.mono (show q≤q+1 by omega);unfold lZ;split
 ·exact hm
 ·(try dsimp only)
  repeat' split
  all_goals first|exact hm|exact hm.same rfl rfl rfl rfl|exact (h.ask hq _ _ _).same rfl rfl rfl rfl
theorem Zn{dd q g x:Int}{c:Co}(h:CnCnt dd q g x c)(hq:q≤8000000)(i:Nat):CnCnt dd (q+1) g x (gF c i):=by
 have hm:=h.mono (show q≤q+1 by omega);unfold gF;split
 ·exact hm
 ·(try dsimp only)
  split
  ·exact hm.same rfl rfl rfl rfl
  ·split
   ·refine ZH ?_ hq i;exact h.same rfl rfl rfl rfl
   ·exact hm.same rfl rfl rfl rfl
theorem Yw{dd g x:Int}:∀ (p:List Nat) (q:Int) (c:Co),q+p.length≤8000000→CnCnt dd q g x c→CnCnt dd (q+p.length) g x (p.foldl gF c)
 |[],q,c,_,h=>h.mono (by show q≤q+((0:Nat):Int);omega)
 |i::p,q,c,hq,h=>by
  have hl:(((i::p).length:Nat):Int)=(p.length:Int)+1:=by simp
  rw[hl]at hq⊢;rw[show q+((p.length:Int)+1)=(q+1)+(p.length:Nat) by omega];exact Yw p _ _ omT (Zn h omT i)
theorem YP{dd q g x:Int}{c:Co}{n:Nat}(hm:c.okM n)(h:CnCnt dd q g x c)(hq:q≤7000000):CnCnt dd (q+2) g x (fJ c):=by
 by_cases hh:c.halt≠0
 ·rw[show fJ c=c from if_pos hh];exact h.mono omT
 ·obtain⟨p, -,hp, -,hl⟩:=zE (k:=c.rob.length) hm.cf hh rfl;rw[hp];exact (Yw p _ _ omT h).mono omT
theorem Yn{dd g x:Int}:∀ (n:Nat) (q:Int) (c:Co),q+n≤8000000→CnCnt dd q g x c→CnCnt dd (q+n) g x (jL n c)
 |0,q,c,_,h=>h.mono omT
 | n+1,q,c,hq,h=>by
  by_cases h0:(c.rob.length:Int)≥c.conf.rob∨c.fetched.length=0
  ·rw[tH h0];exact h.mono omT
  ·have hx:c.fetched[0]?=some (c.fetched[0]'omT):=aA omT;have e:=wM (n:=n+1) (k:=0) omT (λ r=>h0 (.inl r)) hx;rw[show n+1 - (0+1)=n by omega,show n+1 - 0=n+1 by omega]at e;rw[←e,show q+((n+1:Nat):Int)=(q+1)+(n:Nat) by omega];have hw:=Ys h.nx.2 omT;have hm:=h.mono (show q≤q+1 by omega);refine Yn n _ _ omT ⟨hm.ak,hm.aq,hm.gl,?_,hm.bl⟩;show x≤wrap64 (c.next+1)∧0≤wrap64 (c.next+1)∧wrap64 (c.next+1)≤q+1;rw[hw];have:=h.nx;omega
theorem Ye{dd g x:Int}:∀ (n:Nat) (q:Int) (c:Co),q+n≤8000000→CnCnt dd q g x c→CnCnt dd (q+n) g x (eB n c)
 |0,q,c,_,h=>h.mono omT
 | n + 1,q,c,hq,h=>by
  have hm:=h.mono (show q≤q+((n+1:Nat):Int) by omega);by_cases h0:c.stop=true∨(c.fetched.length:Int)≥c.conf.queue
  ·rw[rC h0];exact hm
  ·by_cases hf:(fetchP c.prog c.fetch).isSome=false
   ·rw[tI omT h0 hf];exact hm.same rfl rfl rfl rfl
   ·by_cases hw:(bE c.words (lineOf c.fetch)).2.isSome=false
    ·rw[oP omT h0 hf hw];split
     ·exact (h.ask omT _ _ _).mono omT
     ·exact hm
    ·have e:=uN (n:=n+1) (k:=0) omT h0 hf hw;rw[show n+1 - (0+1)=n by omega,show n+1 - 0=n+1 by omega]at e;rw[←e,show q+((n+1:Nat):Int)=(q+1)+(n:Nat) by omega];refine Ye n _ _ omT ?_;have hT:CnCnt dd q g x (gP c):=h.same rfl rfl rfl rfl;have hb:∀ w,CnCnt dd (q+1) g x (cN (gP c) w).1:=by
      intro w;unfold cN;split
      ·exact hT.mono omT
      ·split
       ·exact hT.mono omT
       ·have hw:=Ys hT.gl.2 omT;have hm:=hT.mono (show q≤q+1 by omega);refine⟨hm.ak,hm.aq,?_,hm.nx,hm.bl⟩;show g≤wrap64 ((gP c).guessed+1)∧0≤wrap64 ((gP c).guessed+1)∧wrap64 ((gP c).guessed+1)≤q+1;rw[hw];have:=hT.gl;omega
     exact (hb (fetchW c.prog c.fetch)).same rfl rfl rfl rfl
theorem YQ{dd q g x:Int}{c:Co}(h:CnCnt dd q g x c)(hq:q≤7000000):CnCnt dd (q+2) g x (pZ c):=by
 have h1:CnCnt dd q g x (aW c):=h.same rfl rfl rfl rfl;have hA:∀ {q:Int} {d:Co},q≤8000000→CnCnt dd q g x d→CnCnt dd (q+1) g x (oG d):=λ {q d} hq k=>by
  unfold oG;split
  ·exact k.mono omT
  ·split
   ·exact k.ask hq _ _ _
   ·exact k.mono omT
 have hB:∀ {q:Int} {d:Co},q≤8000000→CnCnt dd q g x d→CnCnt dd (q+1) g x (kP d):=λ {q d} hq k=>by
  unfold kP;split
  ·exact k.mono omT
  ·unfold mQ;split
   ·split
    ·exact (k.ask hq _ _ _).same rfl rfl rfl rfl
    ·exact k.mono omT
   ·exact k.mono omT
 rw[jW];split
 ·exact (hB (q:=q+1) omT (hA omT h1)).mono omT
 ·exact (hB omT h1).mono omT
theorem YR{dd q:Int}{c:Co}{n:Nat}(hm:c.okM n)(hb:n+20≤890000)(hq:q≤6000000)(h:CnCnt dd q c.guessed c.next c):CnCnt (dd+Yk c.bus) (q+20) c.guessed c.next (TW c):=by
 have hk:=NT hm hb;have w2:∀ {d:Co},uQ d.conf=true→d.conf.width.toNat≤2:=λ {d} z=>by have:=oQ z;omega
 have h0:CnCnt dd q c.guessed c.next (s0 c):=h.same rfl rfl rfl rfl;have h2:=Zm (Zl h0 omT);have h3:CnCnt (dd+Yk c.bus) (q+4) c.guessed c.next (s3 c):=(XX (s2 c).conf.width.toNat _ _ (by have:=w2 hk.k2.cf;omega) h2).mono (by have:=w2 hk.k2.cf;omega);have h4:CnCnt (dd+Yk c.bus) (q+6) c.guessed c.next (s4 c):=(YP hk.k3 h3 omT).mono omT;have h5:CnCnt (dd+Yk c.bus) (q+8) c.guessed c.next (s5 c):=by
  show CnCnt _ _ _ _ (iY (s4 c));unfold iY;split
  ·exact h4.mono omT
  ·exact (Yn _ _ _ (by have:=w2 hk.k4.cf;omega) h4).mono (by have:=w2 hk.k4.cf;omega)
 have h6:CnCnt (dd+Yk c.bus) (q+10) c.guessed c.next (s6 c):=by
  show CnCnt _ _ _ _ (dW (s5 c));unfold dW;split
  ·exact h5.mono omT
  ·exact (Ye _ _ _ (by have:=w2 hk.k5.cf;omega) h5).mono (by have:=w2 hk.k5.cf;omega)
 exact (YQ h6 omT).mono omT
def doneN(X:Co):Nat→Nat
 |0=>0
 |k+1=>doneN X k+Yk (dJ X k).bus
theorem ZI(q:List Req):Yk q≤1:=by unfold Yk;split<;>omega
theorem Yt(X:Co):∀ k,doneN X k≤k
 |0=>aC _
 |k+1=>by have:=Yt X k;have:=ZI (dJ X k).bus;show doneN X k+_≤_;omega
theorem YS{X:Co}(h:∀ k,k≤3000→GdRun X k)(h0:X.asked=0∧X.bus=[]∧X.guessed=0∧X.next=1):∀ k,k≤3000→CnCnt (doneN X k) (1+20 * k) (dJ X k).guessed (dJ X k).next (dJ X k)
 |0,_=>⟨by show X.asked=_;rw[h0.1];show (0:Int)=0+((X.bus.length:Nat):Int);rw[h0.2.1];rfl,by show 0≤X.asked∧X.asked≤_;rw[h0.1];omega,by show X.guessed≤X.guessed∧0≤X.guessed∧X.guessed≤_;rw[h0.2.2.1];omega,by show X.next≤X.next∧0≤X.next∧X.next≤_;rw[h0.2.2.2];omega,λ y hy=>by rw[show (dJ X 0).bus=[]from h0.2.1]at hy;cases hy⟩
 |k+1,hk=>by
  have ih:=YS h h0 k omT;have g:=h k omT;have hm:=Dx g.ok omT g.rt;have hs:dJ X (k+1)=TW (dJ X k):=if_pos g.rt;have hc:=YR hm omT omT ih;rw[←hs]at hc;have h2:((doneN X (k+1):Nat):Int)=(doneN X k:Int)+Yk (dJ X k).bus:=by show ((doneN X k+Yk (dJ X k).bus:Nat):Int)=_;omega
  rw[h2,show (1:Int)+20 * ((k+1:Nat):Int)=1+20 * (k:Int)+20 by omega];exact⟨hc.ak,hc.aq,⟨kH _,hc.gl.2⟩,⟨kH _,hc.nx.2⟩,hc.bl⟩
theorem ZJ{X:Co}(h:∀ k,k≤3000→GdRun X k)(h0:X.asked=0∧X.bus=[]∧X.guessed=0∧X.next=1){k:Nat}(hk:k<3000):CnCnt (doneN X (k+1)) (1+20 * k+20) (dJ X k).guessed (dJ X k).next (dP (dJ X k)):=by
 have g:=h k omT;have hm:=Dx g.ok omT g.rt;have hc:=YR hm omT omT (YS h h0 k omT);rw[←show dP (dJ X k)=TW (dJ X k)from if_pos g.rt]at hc;have h2:((doneN X (k+1):Nat):Int)=(doneN X k:Int)+Yk (dJ X k).bus:=by show ((doneN X k+Yk (dJ X k).bus:Nat):Int)=_;omega
 rw[h2];exact hc
theorem Yx{X:Co}(h:∀ k,k≤3000→GdRun X k)(h0:X.cycle=0):∀ k,k≤3000→(dJ X k).cycle=k
 |0,_=>h0
 |k+1,hk=>by
  have ih:=Yx h h0 k omT;show (dP (dJ X k)).cycle=_;rw[(NS (h k omT).rt).1,ih,Ys (q:=3000) omT omT];omega
theorem Zo{q:List Req}{y:Req}(hl:∀ z∈q,0<z.left∧z.left≤8)(h:q[0]?=some y):Yk q=if y.left≤1 then 1 else 0:=by
 cases q with
 |nil=>cases h
 | cons z r=>
  injection h with h;subst h;have h1:=hl z (bO ..);have hw:wrap64 (z.left - 1)=z.left - 1:=XU omT omT;have e:(dZ (z::r)).2.2=decide (z.left≤1):=by
   unfold dZ;dsimp only;split
   ·rename_i u;exact (rM omT).symm
   ·rename_i u;exact (pH omT).symm
  unfold Yk;rw[e];simp only[bC]
set_option maxRecDepth 100000
set_option maxHeartbeats 4000000
theorem ZG(l:List Req):∃ y,0<l.length→l[0]?=some y:=by
 cases l with
 |nil=>exact⟨MB,λ h=>absurd h (gX 0)⟩
 |cons y l=>exact⟨y,λ _=>rfl⟩
theorem ZS{q:List Req}{y:Req}(hl:∀ z∈q,0<z.left∧z.left≤8)(hy:0<q.length→q[0]?=some y){b:Bool}(h:cA (decide (q.length>0)) (decide (y.left≤1)) false=b):Yk q=if b=true then 1 else 0:=by
 by_cases hq:0<q.length
 ·rw[show decide (q.length>0)=true from pH hq]at h;have h:decide (y.left≤1)=b:=h;rw[Zo hl (hy hq), ←h];by_cases k:y.left≤1<;>simp[k]
 ·rw[show decide (q.length>0)=false from rM hq]at h;have h:false=b:=h;subst h
  cases q with
  |nil=>rfl
  |cons z r=>exact absurd (Nat.succ_pos _) hq
theorem YC(cf:Cf)(prog:List Nat)(m:ByteArray)(n:Int)(hc:cf.ok)(hp:∀ x∈prog,x≤4294967295)(hl:prog.length≤9223372036854775807)(hm:m.size≤9223372036854775807):bY C0 9 [.agg (cfL cf false false),.sl 1 (prog.map eJ) false,.v (.string m),vI n] (vB true):=by
 refine dc1 (bY.intro c1Ok Tryz.func9 rfl rfl (by kernel_rfl) rfl ?_);obtain⟨B,hBe⟩:∃ B,B=upTo n 200:=⟨_,rfl⟩;have hBi:(if (200:Int)<max n 0 then (200:Int)else max n 0)=(B:Int):=hBe ▸ Kx n 200;have hB:B≤200:=hBe ▸ Kw _ _;have hl2:(Ek prog).length≤1000:=by unfold Ek;rw[aQ];omega
 have hp2:=sW (P:=λ x=>x≤4294967295) (n:=min prog.length 64) hp;obtain⟨X,hXe⟩:∃ X,X=vE cf (Ek prog) (Kv m):=⟨_,rfl⟩;have hX:X.ok 0:=hXe ▸ Gn cf _ _ hc hp2;have hr0:fK X=true:=hXe ▸ YU cf _ _ (Gn cf _ _ hc hp2);have hG:=ZA (ZU cf _ _ hc hp2 X hXe hr0) (by rw[hXe];exact Zh cf);have h0:X.asked=0∧X.bus=[]∧X.guessed=0∧X.next=1:=by rw[hXe];exact⟨rfl,rfl,rfl,rfl⟩
 have hcy:X.cycle=0:=by rw[hXe];rfl
 have hnb:2010≤890000:=by decide
 refine cSR<|rAl 0 rfl rfl<|oR 1 rfl<|rE 2<|cSR<|oR 2 rfl<|rCi rfl (Ss prog m hl hm)<|oR 5 rfl<|rE 10<|cSR<|oR 3 rfl<|rCl (x:=.agg (coL X)) rfl (.inl rfl) ((show bY C0 15 [.agg (cfL cf false false),.sl 1 ((Ek prog).map eJ) false,.v (.string (Kv m))] (.agg (coL X))from hXe ▸ SF cf (Ek prog) (Kv m) hc omT))<|rAl 14 rfl rfl ?_;refine rSx 14 (coL X) rfl rfl rfl<|rE 16<|cSR<|oR 1 rfl<|rE 17<|aE<|cSR<|oR 1 rfl<|rW (vI (max n 0)) rfl (okI (PU n 0))<|rW (vN B) rfl (okI hBi)<|oR 1 rfl<|rE 21<|bI<|kZ (κ:=Nat) (λ k=>⟨cI [(9,.ptr 14 0),(26,vN B),(10,vN (doneN X k)),(27,vN k)],heapF [(0,.box [vI cf.mode,vI cf.width,vI cf.rob,vI cf.queue,vI cf.stores,vI cf.slots,vI cf.sets,vI cf.ways,.sl 1 (cf.lat.map fD) false,vB cf.tables,.sl 1 (cf.tape.map eJ) false]),(14,.box (coL (dJ X k)))],21⟩) (λ k=>k≤B) (λ k=>B - k) 0 (λ s=>s) (Weak.of_lists (λ s=>s) wT wH rfl) (aF _) ?_;intro k hk;have hkn:k≤B:=hk;have hkB:k≤200:=by omega
 have hdn:doneN X k≤200:=aL (Yt X k) omT;have hso:(dP (dJ X k)).ok (0+10 * k+10):=Ic (vM hX k omT) omT;have hnb:0+10 * k+10≤890000:=by omega
 have hN:=ZJ hG h0 (show k<3000 by omega);have hR:=YS hG h0 k omT;have hC:=Yx hG hcy (k+1) omT;have hC2:(dP (dJ X k)).cycle=((k+1:Nat):Int):=hC;obtain⟨y0,hy0⟩:=ZG (dJ X k).bus;have hdn2:doneN X (k+1)≤201:=aL (Yt X (k+1)) omT;refine cSR<|rW (vB (decide (k<B))) rfl (okB (ltN _ _))<|rE 22<|aE ?_;refine aU rfl (λ h1=>?_) (λ h1=>?_)
 ·have h1p:=of_decide_eq_true h1;refine aZ<|aE<|bI<|cSR<|oR 2 rfl<|rE 24<|cSR<|oR 2 rfl<|rW (vN (((dJ X k).bus).length)) rfl (bQ rqL ((dJ X k).bus))<|oR 1 rfl<|rE 28 ?_;refine Kg (κ:=Unit) (λ u_=>⟨cI [(9,.ptr 14 0),(11,vN k),(26,vN B),(27,vN k),(10,vN (doneN X (k+1)))],heapF [(0,.box [vI cf.mode,vI cf.width,vI cf.rob,vI cf.queue,vI cf.stores,vI cf.slots,vI cf.sets,vI cf.ways,.sl 1 (cf.lat.map fD) false,vB cf.tables,.sl 1 (cf.tape.map eJ) false]),(14,.box (coL (dJ X k)))],28⟩) (λ u_=>True) ?_ ?_
  ·refine cSR<|oR 1 rfl<|rW (vB (decide ((((dJ X k).bus).length)>0))) rfl (okB (gtN _ _))<|oR 1 rfl<|gN rfl<|gS rfl id<|JF (rqL y0) (x:=.dp 4 0 (rqL y0)) (g:=decide ((((dJ X k).bus).length)>0)) rfl rfl rfl rfl (λ h=>h) rfl rfl (λ hg=>⟨by decide,gJ (hy0 (of_decide_eq_true hg))⟩) rfl<|gS rfl id<|gS rfl id<|gBS (x:=vB (decide (y0.left≤1))) rfl id rfl<|cH rfl rfl rfl (λ h=>h)<|rE 38 ?_;refine aU rfl (λ h2=>?_) (λ h2=>?_)
   ·refine cRg<|oR 1 rfl ?_;have b1:(doneN X k)+1≤201:=aH hdn (aC 1);refine rW (vN ((doneN X k)+1)) rfl (okI (bS b1 rfl))<|oR 1 rfl<|rE 41 ?_;refine .mk _ (.refl _) ⟨(),λ s=>s,Weak.of_lists _ ⟨⟨rfl,rfl⟩,⟨rfl,rfl⟩,⟨rfl,rfl⟩,⟨rfl,rfl⟩,⟨(congrArg vN (show doneN X k+1=doneN X k+Yk (dJ X k).bus by rw[ZS hR.bl hy0 h2];rfl)),rfl⟩,trivial⟩ wH rfl,rfl,trivial⟩
   ·refine aZ ?_;refine .mk _ (.refl _) ⟨(),λ s=>s,Weak.of_lists _ ⟨⟨rfl,rfl⟩,⟨rfl,rfl⟩,⟨rfl,rfl⟩,⟨rfl,rfl⟩,⟨(congrArg vN (show doneN X k=doneN X k+Yk (dJ X k).bus by rw[ZS hR.bl hy0 h2];rfl)),rfl⟩,trivial⟩ wH rfl,rfl,trivial⟩
  ·intro u_ _;refine cSR<|oR 1 rfl<|rCi rfl (NV (dJ X k) (0+10 * k) (vM hX k omT) omT)<|rAl 30 rfl rfl<|rSx 30 (coL (dP (dJ X k))) rfl rfl rfl<|rE 32<|aE<|cSR<|oR 3 rfl ?_;have b2:k+1≤201:=aH hkB (aC 1);refine rW (vN (k+1)) rfl (okI (bS b2 rfl))<|rV (vB (((dP (dJ X k)).cycle) != ((k+1:Nat):Int))) rfl<|oR 1 rfl<|gN rfl<|gS rfl id<|gN rfl<|gN rfl<|gS rfl id<|gBS (x:=vN (((dP (dJ X k)).bus).length)) rfl id (bQ rqL ((dP (dJ X k)).bus)) ?_;have b3:(doneN X (k+1))+(((dP (dJ X k)).bus).length)≤890201:=aH hdn2 (aL hso.bus hnb);refine gBS (x:=vN ((doneN X (k+1))+(((dP (dJ X k)).bus).length))) rfl hsT (okI (bS b3 rfl))<|gBS (x:=vB (((dP (dJ X k)).asked) != (((doneN X (k+1))+(((dP (dJ X k)).bus).length):Nat):Int))) rfl hsT rfl<|cH rfl rfl rfl (by simp)<|oR 1 rfl<|gN rfl<|gS rfl id<|gN rfl<|gS rfl id<|gBS (x:=vB (decide (((dP (dJ X k)).next)<((dJ X k).next)))) rfl hsT rfl<|cH rfl rfl rfl (by simp)<|oR 1 rfl<|gN rfl<|gS rfl id<|gN rfl<|gS rfl id<|gBS (x:=vB (decide (((dP (dJ X k)).guessed)<((dJ X k).guessed)))) rfl hsT rfl ?_;refine cH rfl rfl rfl (by simp)<|rE 61 ?_;refine aU rfl (λ h3=>by have z:=h3;have n1:=hN.ak;have n2:=hN.nx.1;have n3:=hN.gl.1;rw[hC2,n1]at z;simp[c2o]at z;omega) (λ _=>?_);refine aZ<|cRg<|oR 1 rfl<|rSx 14 (coL (dP (dJ X k))) rfl rfl rfl<|rE 63<|cRg ?_;have b4:k+1≤201:=aH hkB (aC 1);refine rW (vN (k+1)) rfl (okI (bS b4 rfl))<|oR 1 rfl<|rE 65 ?_;refine⟨k+1,λ s=>s,Weak.of_lists _ wT wH rfl,by omega,by show B - (k+1)<B - k;omega⟩
 ·have h1p:=aD h1;refine eA<|cSR<|rCi rfl (Ib)<|oR 1 rfl<|rE 24<|cT ?_;exact fT rfl rfl
end Go.Proofs.YtlhofpglndhfaaaGreatDoor
