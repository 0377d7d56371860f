/- Lemmas. -/
import Derived.Test.YtchifhhdlhicjaaGreatDoorS1
import Derived.Test.YtchifhhdlhicjaaGreatDoorS7
set_option linter.all false
namespace Go.Proofs.YtchifhhdlhicjaaGreatDoor
open Go.RowKit
def UG(x a s j:Nat):(field x a s).testBit j=(decide (j<s)&&x.testBit (j+a)):=by
 unfold field;rw[eB,Nat.testBit_div_two_pow,gJ]
def KB(x n:Nat):x.testBit n=decide (x/2 ^ n%2=1):=by
 rw[Nat.testBit_eq_decide_div_mod_eq]
def XF(x s j:Nat)(h1:1<=s)(h2:s<=32):(sext x s).testBit j=if j<s then x.testBit j else(decide (j<32)&&x.testBit (s-1)):=by
 unfold sext;have hp:=wV h2;have hb:=KB x (s-1);have hsplit:4294967296-2 ^ s=2 ^ s*(2 ^ (32-s)-1):=by
  rw[Nat.mul_sub,iD, <-Nat.pow_add,(oT:s+(32-s)=32)]
 by_cases hb1:x/2 ^ (s-1)%2=1
 ·rw[af1 hb1,hb,hsplit,gJ,Nat.testBit_two_pow_mul_add _ (aQ _ (eI _)),eB,dX];by_cases h3:j<s
  ·simp[h3]
  rw[dZ h3,dZ h3];by_cases h4:j<32
  ·have:j-s<32-s:=oT;simp[this,h4,hb1]
  have: ¬j-s<32-s:=oT;simp[this,h4]
 rw[dZ hb1,hb,eB];by_cases h3:j<s
 ·simp[h3]
 simp[h3,hb1]
def Jw(i:SI):Nat:=
 let f:=cW i.op
 let w0:=code i.op.toNat ||| (tT (i.agR/2 ^ qN f) (eQ f)).1
 let w1:=if yW f then setf w0 7 5 (i.rd%4294967296).toNat else w0
 let w2:=if uS f then setf w1 15 5 (i.ag0%4294967296).toNat else w1
 if vS f then setf w2 20 5 (i.ag1%4294967296).toNat else w2
def aeN{a b:Nat}(ha:a<4294967296)(hb:b<4294967296)(h:∀j,j<32->a.testBit j=b.testBit j):a=b:=by
 apply Nat.eq_of_testBit_eq;intro j;by_cases hj:j<32
 ·exact h j hj
 have h32:4294967296<=2 ^ j:=aL (by decide:4294967296<=2 ^ 32) (bU oT oT);rw[Nat.testBit_lt_two_pow (af3 ha h32),Nat.testBit_lt_two_pow (af3 hb h32)]
def Dc(v:Nat)(f:Nat)(hv:v<4294967296):(tT v (eQ f)).1<4294967296:=
 (BB (eQ f) (0,v) (by show 0<4294967296;omega) hv (vF f).1).1
def Ry(i:SI)(hi:i.agR<4294967296):Jw i<4294967296:=by
 unfold Jw;have h0:code i.op.toNat ||| (tT (i.agR/2 ^ qN (cW i.op)) (eQ (cW i.op))).1<4294967296:=
  kQ (n:=32) (HZ _) (Dc _ _ (bL (cO _ _) hi))
 have hs:∀w a v,w<4294967296->a+5<=32->setf w a 5 v<4294967296:=λw a v hw ha=>EJ w a 5 v ha hw;dsimp only
 repeat' (first|assumption|refine hs _ _ _ ?_ oT|split)
def KC(f x:Nat)(hf:f<=8):EG f x<4294967296:=by
 have hc:f=0∨f=1∨f=2∨f=3∨f=4∨f=5∨f=6∨f=7∨f=8:=oT;unfold EG;split
 ·exact aQ _ oT
 split
 ·omega
 refine Ia _ _ ?_;rcases hc with rfl|rfl|rfl|rfl|rfl|rfl|rfl|rfl|rfl<;>decide
def AY(op:Int)(hop:1<=op∧op<=48):1<=cW op:=by
 unfold cW
 repeat' (split<;>try omega)
def Fp(x:Nat)(h:opOf x≠0):1<=opOf x∧opOf x<=48∧Lh x (opOf x)=true:=by
 rcases opFrom_le x 48 1 with h'|⟨h1,h2,h3, -⟩
 ·exact absurd h' h
 exact⟨h1,by unfold opOf;omega,h3⟩
end Go.Proofs.YtchifhhdlhicjaaGreatDoor
