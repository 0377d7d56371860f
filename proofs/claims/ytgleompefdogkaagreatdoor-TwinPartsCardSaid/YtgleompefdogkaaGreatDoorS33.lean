/- Joined texts. -/
import Derived.Test.YtgleompefdogkaaGreatDoorS1
import Derived.Test.YtgleompefdogkaaGreatDoorS28
import Derived.Test.YtgleompefdogkaaGreatDoorS32
set_option linter.unusedVariables false
set_option linter.unusedSimpArgs false
set_option linter.defProp false
namespace Go.Proofs.YtgleompefdogkaaGreatDoor
set_option maxRecDepth 100000
set_option maxHeartbeats 4000000
open Go.RowKit
section
variable {α:Type}{f:α->List AV}{A l B:List α}{lo:Nat}
def jM{x:α}{i:Nat}(hlo:A.length=lo)(hx:l[i]?=some x):(A++l++B)[lo+i]?=some x:=by
 have hi:=(DS.1 hx).1;rw[eY,bU omT, <-hlo,Nat.add_sub_cancel_left,cO hi,hx]
def uC{n:Nat}(hlo:A.length=lo)(hn:l.length=n):List.take n (List.drop lo ((A++l++B).map f))=l.map f:=by
 subst hlo;subst hn;rw[<-kI, <-eZ];congr 1;rw[eY,List.drop_left,List.take_left]
def VA{x:α}{i:Nat}(hlo:A.length=lo)(hi:i<l.length):(A++l++B).set (lo+i) x=A++l.set i x++B:=by
 subst hlo;rw[eY,iO _ _ omT,Nat.add_sub_cancel_left,List.set_append_left _ _ hi,eY]
def uQ{x:α}{i:Nat}{h:AH}{b rs:Nat}(hlo:A.length=lo)(hi:i<l.length):some (upd h b (some (.arr (((A++l++B).map f).set (lo+i) (f x)) rs)))=some (upd h b (some (.arr ((A++l.set i x++B).map f) rs))):=by
 rw[<-List.map_set,VA hlo hi]
end
def SH(op:Int)(s:ByteArray):loadP op s<=4294967295:=by
 unfold loadP;split
 ·rename_i h;have h4:s.size<=4:=by have:=rG op;omega
  have:=ES s h4;split
  ·exact aY (Lk _ _ omT)
  ·split
   ·exact aY (Lk _ _ omT)
   ·omega
 ·exact aE _
def PC{e:Ent}(he:e.ok){a b:Nat}(ha:a<=4294967295)(hb:b<=4294967295):(oW e a b).ok:=by
 have hv:uK e a b<=4294967295:=by
  unfold uK;split
  ·exact aE _
  ·exact aY (Wb _ _ _ _ _ (Cd he.imm) (Cd ha) (Cd hb))
 have hu:up4 e.pc<=4294967295:=by unfold up4;omega
 have hx:iI e.i.op e.i.imm e.pc a b<=4294967295:=aY (MK _ _ _ _ _);unfold oW
 repeat' split
 all_goals first|exact he|exact⟨he.pc,he.imm,he.guess,hv,hu,he.addr⟩|exact⟨he.pc,he.imm,he.guess,hv,hx,he.addr⟩|exact⟨he.pc,he.imm,he.guess,aE _,hu,he.addr⟩
def PD{e:Ent}(he:e.ok):(goE e).ok:=by
 unfold goE;repeat' split
 all_goals first|exact he|exact⟨he.pc,he.imm,he.guess,he.value,he.next,he.addr⟩
def Hx{e:Ent}(he:e.ok)(size:Int)(a:Nat):(rI e size a).ok:=by
 have hx:(a+e.i.imm)%4294967296<=4294967295:=by omega
 unfold rI;repeat' split
 all_goals first|exact he|exact⟨he.pc,he.imm,he.guess,he.value,he.next,hx⟩
def Hy{e:Ent}(he:e.ok)(s:ByteArray):(sQ e s).ok:=by
 have hl:loadP e.i.op s<=4294967295:=SH e.i.op s;unfold sQ;split
 ·exact he
 ·refine⟨he.pc,he.imm,he.guess,?_,he.next,he.addr⟩;show(if wr e.i=0 then 0 else loadP e.i.op s)<=_;split<;>omega
def Jr(rob:List Ent)(stores:List Pt)(i:Nat):(lD rob stores i).2.size<=100:=by
 have hs:∀(l:List Std) (a n:Nat),n<=4->(xJ a n l).2.size<=100:=by
  intro l a n hn
  induction l with
  |nil=>exact aE _
  | cons s l ih=>
   unfold xJ;split
   ·exact ih
   ·split
    ·exact aE _
    ·show(s.data.extract _ _).size<=100;rw[dX];omega
 unfold lD;split
 ·exact aE _
 ·split
  ·exact aE _
  ·split
   ·exact aE _
   ·exact hs _ _ _ (rG _)
def Gl{c:Co}(h:c.mem.size<=256)(e:Ent):(oJ c e).size<=1000:=by
 unfold oJ rJ;split
 ·rw[dX];have:=Ml c.stores c.data c.bus c.mem;unfold VR;omega
 ·exact aE _
def Js(q:List Req)(line:Nat)(k:Int):LC q line [k]=DN q line k:=by unfold LC DN;congr 1;funext x;simp
def Zx(c:Co)(nb:Nat)(hm:c.okM nb)(i:Nat)(hi:i<c.rob.length)(A B:List Ent)(lo n:Nat)(kR kF kS kT:Bool)(xF xT:List (List AV))(hlo:A.length=lo)(hn:c.rob.length=n)(hA:A.length+n+B.length<=1000):qE C0.P C0.G 114 [.ptr 0 0,vN i] (heapF [(0,.box (mcX c (.osl 1 lo n kR) (.sl 2 xF kF) (.sl 2 (c.stores.map ptL) kS) (.sl 9 xT kT))),(1,.arr ((A++(c).rob++B).map enL) 17)]) 2 (λx h'=>x=.tup []∧h'=heapF [(0,.box (mcX (kL c i) (.osl 1 lo n kR) (.sl 2 xF kF) (.sl 2 (c.stores.map ptL) kS) (.sl 9 xT kT))),(1,.arr ((A++((kL c i)).rob++B).map enL) 17)]):=by
 refine HCall.intro (C:=C1) (s:=2) c1Ok.at Tryz.func114 rfl rfl (by kernel_rfl) rfl rfl<|qS 0 rfl<|nW (.ptr2 1 (lo+i) 0) rfl rfl ixT ?_;obtain⟨x,hx⟩:∃y_,c.rob[i]?=some y_:=⟨_,aA omT⟩;have hxo:=hm.ok.robo x (aB hx);refine rIx (enL x) (.agg (enL x)) rfl rfl (fW (jM hlo hx)) rfl<|qRC 0 rfl<|aS rfl (λh1=>?_) (λh1=>?_)
 ·refine qCF 0 rfl ?_;have e:kL c i=c:=by unfold kL;rw[hx];dsimp only;rw[if_pos (Fx h1)];try rfl
  rw[e];exact pK (rs:=[]) rfl (σ:=λz=>z) ⟨rfl,rfl⟩ rfl (cI (λz=>z) rfl rfl wH rfl)
 ·refine qCC 0 rfl<|cRg<|oR 11 rfl<|rCl (x:=.tup [vI ((lD c.rob c.stores i).1),.v (.string ((lD c.rob c.stores i).2))]) rfl (.inr ⟨rfl,⟨(by show lo+n<=((A++c.rob++B).map enL).length;exact omT),trivial,trivial,trivial⟩⟩) ((show cA C0 143 [.sl 17 (List.take n (List.drop lo ((A++c.rob++B).map enL))) kR,.sl 2 (c.stores.map ptL) kS,vN i] _ from by rw[uC (l:=c.rob) hlo (by first|exact hn|(rw[bY];exact hn)|(simp only[bY];exact hn))];exact WA c.rob c.stores kR kS i hm.rob hm.ok.robo hm.sto hm.ok.stoo hm.std hi))<|oR 5 rfl<|rE 32<|qX 0 rfl<|rCi rfl (tT x.addr hxo.addr)<|qR 0 rfl<|rV (vB (((lD c.rob c.stores i).1)==1)) rfl<|qRC 0 rfl<|aS rfl (λh2=>?_) (λh2=>?_)
  ·have h2p:=mW h2;refine cRg<|oR 8 rfl<|rCi rfl (QV x ((lD c.rob c.stores i).2) hxo (bM (Jr c.rob c.stores i) (by decide)))<|nW (.ptr2 1 (lo+i) 0) rfl rfl ixT ?_;refine nL (enL x) (h':=upd _ 1 (some (.arr ((A++(c.rob.set i (sQ x ((lD c.rob c.stores i).2)))++B).map enL) 17))) rfl rfl rfl (⟨aH _,fW ((jM hlo hx))⟩) (uQ (f:=enL) (x:=(sQ x ((lD c.rob c.stores i).2))) (l:=c.rob) (i:=i) hlo omT)<|rE 50 ?_;have e:kL c i=setE c i (sQ x ((lD c.rob c.stores i).2)):=by unfold kL;rw[hx];dsimp only;rw[if_neg (sL h1),if_pos h2p];try rfl
   rw[e];exact qXF 0 rfl<|pK (rs:=[]) rfl (σ:=λz=>z) ⟨rfl,rfl⟩ rfl (cI (λz=>z) rfl rfl wH rfl)
  ·have h2p:=mX h2;refine qC 0 rfl<|rV (vB (((lD c.rob c.stores i).1) != 2)) rfl<|qRC 0 rfl<|aS rfl (λh3=>?_) (λh3=>?_)
   ·have h3p:=xH h3;refine qCF 0 rfl ?_;have e:kL c i=c:=by unfold kL;rw[hx];dsimp only;rw[if_neg (sL h1),if_neg h2p,if_pos h3p];try rfl
    rw[e];exact pK (rs:=[]) rfl (σ:=λz=>z) ⟨rfl,rfl⟩ rfl (cI (λz=>z) rfl rfl wH rfl)
   ·have h3p:=xI h3;refine qC 0 rfl<|fV (args:=[.ptr 0 0,vU (lineOf x.addr)]) (d:=56) _ rfl rfl rfl (qE.of_dcall (C:=C0) (show cA C0 144 [.dp 64 0 (mcX c (.sl 17 (List.take n (List.drop lo ((A++c.rob++B).map enL))) kR) (.sl 2 xF kF) (.sl 2 (c.stores.map ptL) kS) (.sl 9 xT kT)),vU (lineOf x.addr)] _ from by rw[uC (l:=c.rob) hlo (by first|exact hn|(rw[bY];exact hn)|(simp only[bY];exact hn))];exact VB c nb hm (.sl 2 xF kF) (.sl 2 (c.stores.map ptL) kS) (.sl 9 xT kT) kR (lineOf x.addr) (dT hxo.addr)) (by rfl) (by exact⟨⟨rfl,(r4 (r4 (r4 (r4 (r4 (r4 (r4 (r4 (r4 (r4 (r4 (r4 ⟨(by show lo+n<=((A++c.rob++B).map enL).length;simp only[aG,aQ,bY];omega),tvT⟩))))))))))))⟩,trivial,trivial⟩) (by rfl)) ?_;rintro _ _ ⟨rfl,rfl⟩;refine qRC 0 rfl<|aS rfl (λh4=>?_) (λh4=>?_)
    ·refine cRg<|oR 9 rfl<|rCl rfl (.inr ⟨rfl,⟨trivial,tvT,trivial⟩⟩) (Mm c nb hm .any (.sl 2 xF kF) (.sl 9 xT kT) kS x hxo)<|rCi rfl (QV x (oJ c x) hxo (by have:=Gl (c:=c) (by have:=hm.mem;omega) x;omega))<|nW (.ptr2 1 (lo+i) 0) rfl rfl ixT ?_;refine nL (enL x) (h':=upd _ 1 (some (.arr ((A++(c.rob.set i (sQ x (oJ c x)))++B).map enL) 17))) rfl rfl rfl (⟨aH _,fW ((jM hlo hx))⟩) (uQ (f:=enL) (x:=(sQ x (oJ c x))) (l:=c.rob) (i:=i) hlo omT)<|rE 59 ?_;have e:kL c i=setE c i (sQ x (oJ c x)):=by unfold kL;rw[hx];dsimp only;rw[if_neg (sL h1),if_neg h2p,if_neg (λq=>q h3p),if_pos h4];try rfl
     rw[e];exact qXF 0 rfl<|pK (rs:=[]) rfl (σ:=λz=>z) ⟨rfl,rfl⟩ rfl (cI (λz=>z) rfl rfl wH rfl)
    ·refine qC 0 rfl<|rV (.sl 1 ([[vI 1]]) true) rfl<|rCl (x:=vB (DN c.bus (lineOf x.addr) 1)) rfl (.inl rfl) ((show cA C0 _ [_,_,.sl 1 ([(1:Int)].map iK) true] _ from by rw[<-Js];exact QU c.bus (lineOf x.addr) [1] false true (by have:=hm.bus;omega) (λx hx=>(hm.ok.buso x hx).line) (dT hxo.addr) (by decide)))<|qRC 0 rfl<|aS rfl (λh5=>?_) (λh5=>?_)
     ·refine qC 0 rfl<|nW (.ptr2 1 (lo+i) 0) rfl rfl ixT ?_;refine qR 0 rfl<|nL (enL x) (h':=upd _ 1 (some (.arr ((A++(c.rob.set i (⟨x.no,x.pc,⟨x.i.op,x.i.rd,x.i.rs1,x.i.rs2,x.i.imm⟩,x.guess,2,x.left,x.value,x.next,x.addr,x.halt,x.took,x.known,x.filled⟩:Ent))++B).map enL) 17))) rfl rfl rfl (⟨aH _,fW ((jM hlo hx))⟩) (uQ (f:=enL) (x:=(⟨x.no,x.pc,⟨x.i.op,x.i.rd,x.i.rs1,x.i.rs2,x.i.imm⟩,x.guess,2,x.left,x.value,x.next,x.addr,x.halt,x.took,x.known,x.filled⟩:Ent)) (l:=c.rob) (i:=i) hlo omT) ?_;have e:kL c i=setE c i (⟨x.no,x.pc,⟨x.i.op,x.i.rd,x.i.rs1,x.i.rs2,x.i.imm⟩,x.guess,2,x.left,x.value,x.next,x.addr,x.halt,x.took,x.known,x.filled⟩:Ent):=by unfold kL;rw[hx];dsimp only;rw[if_neg (sL h1),if_neg h2p,if_neg (λq=>q h3p),if_neg (by rw[h4];decide),if_pos h5];try rfl
      rw[e];exact qRF 0 rfl<|pK (rs:=[]) rfl (σ:=λz=>z) ⟨rfl,rfl⟩ rfl (cI (λz=>z) rfl rfl wH rfl)
     ·refine qC 0 rfl<|rCl (x:=vB (vC c.rob i)) rfl (.inr ⟨rfl,⟨(by show lo+n<=((A++c.rob++B).map enL).length;exact omT),trivial,trivial⟩⟩) ((show cA C0 142 [.sl 17 (List.take n (List.drop lo ((A++c.rob++B).map enL))) kR,vN i] _ from by rw[uC (l:=c.rob) hlo (by first|exact hn|(rw[bY];exact hn)|(simp only[bY];exact hn))];exact Mo c.rob kR i hm.rob hm.ok.robo (by have:=hm.rob;omega)))<|fV (args:=[.ptr 0 0,vB (vC c.rob i)]) (d:=95) _ rfl rfl rfl (qE.of_dcall (C:=C0) (show cA C0 76 [.dp 64 0 (mcX c (.sl 17 (List.take n (List.drop lo ((A++c.rob++B).map enL))) kR) (.sl 2 xF kF) (.sl 2 (c.stores.map ptL) kS) (.sl 9 xT kT)),vB (vC c.rob i)] _ from by rw[uC (l:=c.rob) hlo (by first|exact hn|(rw[bY];exact hn)|(simp only[bY];exact hn))];exact SJ c nb hm (.sl 17 (c.rob.map enL) kR) (.sl 2 xF kF) (.sl 2 (c.stores.map ptL) kS) (.sl 9 xT kT) (vC c.rob i)) (by rfl) (by exact⟨⟨rfl,(r4 (r4 (r4 (r4 (r4 (r4 (r4 (r4 (r4 (r4 (r4 (r4 ⟨(by show lo+n<=((A++c.rob++B).map enL).length;simp only[aG,aQ,bY];omega),tvT⟩))))))))))))⟩,trivial,trivial⟩) (by rfl)) ?_;rintro _ _ ⟨rfl,rfl⟩;refine qR 0 rfl<|gS rfl id<|gS rfl id<|gS rfl id<|gS rfl id<|qR 0 rfl<|gB rfl rfl<|jU (args:=[.sl 4 (c.bus.map rqL) false,vU (lineOf x.addr),.sl 1 ([[vI 3]]) true]) (x:=vB (DN c.bus (lineOf x.addr) 3)) (g:=qZ c (vC c.rob i)) rfl rfl rfl rfl hsT rfl rfl rfl (.inl rfl) rfl (λhg=>(show cA C0 _ [_,_,.sl 1 ([(3:Int)].map iK) true] _ from by rw[<-Js];exact QU c.bus (lineOf x.addr) [3] false true (by have:=hm.bus;omega) (λx hx=>(hm.ok.buso x hx).line) (dT hxo.addr) (by decide)))<|gS rfl id<|cU rfl rfl rfl (λh=>h)<|qRC 0 rfl<|aS rfl (λh6=>?_) (λh6=>?_)
      ·refine qC 0 rfl<|fV (args:=[.ptr 0 0,vI 1,vU (lineOf x.addr),.v (.string (⟨#[]⟩:ByteArray))]) (d:=109) _ rfl rfl rfl ((Zy c nb hm 1 (lineOf x.addr) (⟨#[]⟩:ByteArray) (dT hxo.addr) lo n kR ((A++c.rob++B).map enL) kF xF kS (c.stores.map ptL) kT xT).frameB (λz=>z) _ _ rfl ⟨⟨rfl,rfl,rfl,rfl⟩,⟨rfl,rfl,rfl,rfl⟩,trivial⟩ rfl rfl rfl rfl) ?_;rintro _ _ ⟨rfl,rfl⟩;refine qR 0 rfl<|nW (.ptr2 1 (lo+i) 0) rfl rfl ixT ?_;refine qR 0 rfl<|nL (enL x) (h':=upd _ 1 (some (.arr ((A++(c.rob.set i (⟨x.no,x.pc,⟨x.i.op,x.i.rd,x.i.rs1,x.i.rs2,x.i.imm⟩,x.guess,2,x.left,x.value,x.next,x.addr,x.halt,x.took,x.known,x.filled⟩:Ent))++B).map enL) 17))) rfl rfl rfl (⟨aH _,fW ((jM hlo hx))⟩) (uQ (f:=enL) (x:=(⟨x.no,x.pc,⟨x.i.op,x.i.rd,x.i.rs1,x.i.rs2,x.i.imm⟩,x.guess,2,x.left,x.value,x.next,x.addr,x.halt,x.took,x.known,x.filled⟩:Ent)) (l:=c.rob) (i:=i) hlo omT) ?_;have e:kL c i=setE (iU c 1 (lineOf x.addr) (⟨#[]⟩:ByteArray)) i (⟨x.no,x.pc,⟨x.i.op,x.i.rd,x.i.rs1,x.i.rs2,x.i.imm⟩,x.guess,2,x.left,x.value,x.next,x.addr,x.halt,x.took,x.known,x.filled⟩:Ent):=by unfold kL;rw[hx];dsimp only;rw[if_neg (sL h1),if_neg h2p,if_neg (λq=>q h3p),if_neg (by rw[h4];decide),if_neg (by rw[h5];decide),if_pos (by have z:=h6;simp only[qG]at z;simpa using z)];try rfl
       rw[e];exact qRF 0 rfl<|pK (rs:=[]) rfl (σ:=λz=>z) ⟨rfl,rfl⟩ rfl (cI (λz=>z) rfl rfl wH rfl)
      ·skip
       have e:kL c i=c:=by unfold kL;rw[hx];dsimp only;rw[if_neg (sL h1),if_neg h2p,if_neg (λq=>q h3p),if_neg (by rw[h4];decide),if_neg (by rw[h5];decide),if_neg (by have z:=h6;simp only[qG]at z;simpa using z)];try rfl
       rw[e];exact qCF 0 rfl<|pK (rs:=[]) rfl (σ:=λz=>z) ⟨rfl,rfl⟩ rfl (cI (λz=>z) rfl rfl wH rfl)
theorem qE.frameB2{P:Program}{G:Nat->Option (List AV)}{f:FuncId}{args:List AV}{b0 b1 c0 c1:Blk}{L:List (Nat×Blk)}{s:Nat}{r:AV}(H:qE P G f args (heapF ((0,b0)::(1,b1)::L)) s (λx h'=>x=r∧h'=heapF ((0,c0)::(1,c1)::L)))(ρ:Nat->Nat)(K:AH)(s2:Nat)(hfull:fullB (heapF ((0,b0)::(1,b1)::L)) s=true)(hL:FrL ρ K s s2 ((0,b0)::(1,b1)::L))(hi:Ty ρ s=true)(ha:mM s args=true)(hr:eL r=true)(hb0:qU s c0=true)(hb1:qU s c1=true):
  qE P G f (Bb ρ args) K s2 (λx h'=>x=r∧h'=upd (upd K (ρ 0) (some (Du ρ c0))) (ρ 1) (some (Du ρ c1))):=by
 have hs:1<s:=aP hL.2.1.2.1;refine H.frameL ρ K s2 hfull hL hi ha _ λr' h' hP=>?_;obtain⟨rfl,rfl⟩:=hP;refine⟨_,⟨zD _ _ hr,rfl⟩,λy blk hy=>?_⟩;by_cases he1:y=ρ 1
 ·subst he1;rw[cZ]at hy;injection hy with hy;exact .inl ⟨1,c1,rfl,(rY ρ omT).symm,by rw[<-hy,yI ρ s s2 c1 hb1]⟩
 rw[cH _ _ he1]at hy;by_cases he:y=ρ 0
 ·subst he;rw[cZ]at hy;injection hy with hy;exact .inl ⟨0,c0,rfl,(rY ρ omT).symm,by rw[<-hy,yI ρ s s2 c0 hb0]⟩
 ·rw[cH _ _ he]at hy;by_cases hx:∃x,x<s∧ρ x=y
  ·obtain⟨x,hxs,rfl⟩:=hx;have hx0:x≠0:=λe=>he (by rw[e]);have hx1:x≠1:=λe=>he1 (by rw[e]);obtain⟨blk0,hb⟩:=DD.1 (uN hfull x hxs);have hk:=hL.get x blk0 hb;rw[hk.2.2.2]at hy;injection hy with hy;refine .inl ⟨x,blk0,?_,(rY ρ omT).symm,?_⟩
   ·have q0:Nat.beq 0 x=false:=by rw[<-eI];exact λe=>hx0 (aK e).symm
    have q1:Nat.beq 1 x=false:=by rw[<-eI];exact λe=>hx1 (aK e).symm
    simp only[heapF,q0,q1]at hb⊢;exact hb
   ·rw[<-hy];exact(yI ρ s s2 blk0 hk.2.2.1).symm
  ·exact .inr ⟨hy,λx hxs e=>hx ⟨x,hxs,e⟩⟩
def wW{c:Co}{n:Nat}(h:c.okM n)(i:Nat){e:Ent}(he:e.ok):(setE c i e).okM n:=by
 have hl:(c.rob.set i e).length=c.rob.length:=bY ..;exact⟨⟨h.ok.conf,h.ok.prog,h.ok.progo,h.ok.r,h.ok.fetch,h.ok.fet,h.ok.feto,by show(c.rob.set i e).length<=_;rw[hl];exact h.ok.rob,zC (P:=Ent.ok) h.ok.robo he,h.ok.sto,h.ok.stoo,h.ok.data,h.ok.words,h.ok.bus,h.ok.buso,h.ok.asked,h.ok.guessed,h.ok.mem,h.ok.guess,h.ok.ret,h.ok.reto⟩,h.nb,h.cf,h.data,h.words,h.guess,by show(c.rob.set i e).length<=_;rw[hl];exact h.rob,h.fet,h.sto,h.prog,h.mem,h.std⟩
def AK{rob:List Ent}{r:Nat->Nat}(ho:∀x∈rob,x.ok)(hr:∀k,r k<=4294967295)(i:Nat):(lK rob r i).1<=4294967295∧(lK rob r i).2.1<=4294967295:=by
 unfold lK;split
 ·exact⟨BX ho hr _ _,BX ho hr _ _⟩
 ·exact⟨aE _,aE _⟩
def Up(c:Co)(nb:Nat)(hm:c.okM nb)(i:Nat)(hi:i<c.rob.length)(A B:List Ent)(lo n:Nat)(kR kF kS kT:Bool)(xF xT:List (List AV))(hlo:A.length=lo)(hn:c.rob.length=n)(hA:A.length+n+B.length<=1000):qE C0.P C0.G 71 [.ptr 0 0,vN i] (heapF [(0,.box (mcX c (.osl 1 lo n kR) (.sl 2 xF kF) (.sl 2 (c.stores.map ptL) kS) (.sl 9 xT kT))),(1,.arr ((A++(c).rob++B).map enL) 17)]) 2 (λx h'=>x=.tup []∧h'=heapF [(0,.box (mcX (fD c i) (.osl 1 lo n kR) (.sl 2 xF kF) (.sl 2 (c.stores.map ptL) kS) (.sl 9 xT kT))),(1,.arr ((A++((fD c i)).rob++B).map enL) 17)]):=by
 refine HCall.intro (C:=C1) (s:=2) c1Ok.at Tryz.func71 rfl rfl (by kernel_rfl) rfl rfl<|qS 0 rfl<|nW (.ptr2 1 (lo+i) 0) rfl rfl ixT ?_;obtain⟨x,hx⟩:∃y_,c.rob[i]?=some y_:=⟨_,aA omT⟩;have hxo:=hm.ok.robo x (aB hx);refine rIx (enL x) (.agg (enL x)) rfl rfl (fW (jM hlo hx)) rfl<|qRC 0 rfl<|cRg<|oR 11 rfl<|rCl (x:=.tup [vU ((lK c.rob c.r i).1),vU ((lK c.rob c.r i).2.1),vB ((lK c.rob c.r i).2.2)]) rfl (.inr ⟨rfl,⟨(by show lo+n<=((A++c.rob++B).map enL).length;exact omT),tvT,trivial,trivial⟩⟩) ((show cA C0 111 [.sl 17 (List.take n (List.drop lo ((A++c.rob++B).map enL))) kR,.agg (Jz c.r),vN i] _ from by rw[uC (l:=c.rob) hlo (by first|exact hn|(rw[bY];exact hn)|(simp only[bY];exact hn))];exact Uq c.rob c.r kR i hm.rob hm.ok.robo hm.ok.r (by have:=hm.rob;omega)))<|oR 7 rfl<|rE 31<|qX 0 rfl<|rCi rfl (pV x.i)<|qR 0 rfl<|rW (vB ((kindOf x.i.op)==4)) rfl (okB (eqN _ _))<|qRC 0 rfl<|aS rfl (λh1=>?_) (λh1=>?_)
 ·have h1p:=mW h1;refine cRg<|oR 12 rfl<|rV (vN c.mem.size) rfl<|oR 1 rfl<|rCi rfl (UE x ((c.mem.size:Nat):Int) ((lK c.rob c.r i).1) hxo (by have:=hm.mem;omega) (AK hm.ok.robo hm.ok.r i).1)<|nW (.ptr2 1 (lo+i) 0) rfl rfl ixT ?_;refine nL (enL x) (h':=upd _ 1 (some (.arr ((A++(c.rob.set i (rI x ((c.mem.size:Nat):Int) ((lK c.rob c.r i).1)))++B).map enL) 17))) rfl rfl rfl (⟨aH _,fW ((jM hlo hx))⟩) (uQ (f:=enL) (x:=(rI x ((c.mem.size:Nat):Int) ((lK c.rob c.r i).1))) (l:=c.rob) (i:=i) hlo omT)<|rE 53 ?_;have e:fD c i=setE c i (rI x ((c.mem.size:Nat):Int) ((lK c.rob c.r i).1)):=by unfold fD;rw[hx];dsimp only;rw[if_pos h1p]
  rw[e];exact qXF 0 rfl<|pK (rs:=[]) rfl (σ:=λz=>z) ⟨rfl,rfl⟩ rfl (cI (λz=>z) rfl rfl wH rfl)
 ·have h1p:=mX h1;refine qC 0 rfl<|rW (vB ((kindOf x.i.op)==3)) rfl (okB (eqN _ _))<|qRC 0 rfl<|aS rfl (λh2=>?_) (λh2=>?_)
  ·have h2p:=mW h2;refine qCC 0 rfl<|cRg<|oR 12 rfl<|rV (vN c.mem.size) rfl<|oR 1 rfl<|rCi rfl (UE x ((c.mem.size:Nat):Int) ((lK c.rob c.r i).1) hxo (by have:=hm.mem;omega) (AK hm.ok.robo hm.ok.r i).1)<|nW (.ptr2 1 (lo+i) 0) rfl rfl ixT ?_;refine nL (enL x) (h':=upd _ 1 (some (.arr ((A++(c.rob.set i (rI x ((c.mem.size:Nat):Int) ((lK c.rob c.r i).1)))++B).map enL) 17))) rfl rfl rfl (⟨aH _,fW ((jM hlo hx))⟩) (uQ (f:=enL) (x:=(rI x ((c.mem.size:Nat):Int) ((lK c.rob c.r i).1))) (l:=c.rob) (i:=i) hlo omT)<|rE 55<|qX 0 rfl<|fV _ rfl rfl rfl ((Zx (setE c i (rI x ((c.mem.size:Nat):Int) ((lK c.rob c.r i).1))) nb (wW hm i (Hx hxo _ _)) i (by show i<(c.rob.set i _).length;rw[bY];exact hi) A B lo n kR kF kS kT xF xT hlo (by show(c.rob.set i _).length=n;rw[bY];exact hn) hA).frameB2 (λz=>z) _ _ rfl ⟨⟨rfl,rfl,rfl,rfl⟩,⟨rfl,rfl,rfl,rfl⟩,trivial⟩ rfl rfl rfl rfl rfl) ?_;rintro _ _ ⟨rfl,rfl⟩;have e:fD c i=kL (setE c i (rI x (c.mem.size:Int) (lK c.rob c.r i).1)) i:=by unfold fD;rw[hx];dsimp only;rw[if_neg h1p,if_pos h2p]
   rw[e];exact qRF 0 rfl<|pK (rs:=[]) rfl (σ:=λz=>z) ⟨rfl,rfl⟩ rfl (cI (λz=>z) rfl rfl wH rfl)
  ·have h2p:=mX h2;refine cRg<|oR 9 rfl<|rCi rfl (Wu x ((lK c.rob c.r i).1) ((lK c.rob c.r i).2.1) hxo (AK hm.ok.robo hm.ok.r i).1 (AK hm.ok.robo hm.ok.r i).2)<|nW (.ptr2 1 (lo+i) 0) rfl rfl ixT ?_;refine nL (enL x) (h':=upd _ 1 (some (.arr ((A++(c.rob.set i (oW x ((lK c.rob c.r i).1) ((lK c.rob c.r i).2.1)))++B).map enL) 17))) rfl rfl rfl (⟨aH _,fW ((jM hlo hx))⟩) (uQ (f:=enL) (x:=(oW x ((lK c.rob c.r i).1) ((lK c.rob c.r i).2.1))) (l:=c.rob) (i:=i) hlo omT)<|rE 50 ?_;have e:fD c i=setE c i (oW x ((lK c.rob c.r i).1) ((lK c.rob c.r i).2.1)):=by unfold fD;rw[hx];dsimp only;rw[if_neg h1p,if_neg h2p]
   rw[e];exact qXF 0 rfl<|pK (rs:=[]) rfl (σ:=λz=>z) ⟨rfl,rfl⟩ rfl (cI (λz=>z) rfl rfl wH rfl)
structure WyG(n k:Nat)(w:Wy):Prop where
 line:lineOf w.line=w.line
 set:w.line/16%n=k
 data:w.data.size=0∨w.data.size=16
 le:w.line<=4294967295
structure SetG(n:Nat)(ways:Int)(k:Nat)(s:List Wy):Prop where
 len:(s.length:Int)<=ways
 way:∀w∈s,WyG n k w
 one:(s.map (·.line)).Nodup
structure CaG(c:Ca):Prop where
 sets:c.sets.length=1∨c.sets.length=2∨c.sets.length=4
 ways:c.ways=1∨c.ways=2
 set:∀k s,c.sets[k]?=some s->SetG c.sets.length c.ways k s
theorem Py:∀{s:List Wy} {line:Nat},jG s line=none↔∀w∈s,w.line≠line
 |[],_=>by simp[jG]
 |w::l,line=>by
  unfold jG;by_cases h:w.line=line
  ·rw[if_pos h];simp[h]
  ·rw[if_neg h,Option.map_eq_none_iff,Py];simp[h]
def Vz:∀{s:List Wy},(∀i x,s[i]?=some x->jG (s.take i) x.line=none)↔(s.map (·.line)).Nodup:=by
 intro s;rw[List.nodup_iff_pairwise_ne,List.pairwise_map,List.pairwise_iff_getElem];constructor
 ·intro h i j hi hj hij e;exact Py.1 (h j s[j] (aA hj)) s[i] (aB (i:=i) (by rw[cL,if_pos hij,aA hi])) e
 ·intro h j x hx;obtain⟨hj,rfl⟩:=DS.1 hx;refine Py.2 λw hw=>?_;obtain⟨i,hi,rfl⟩:=fY hw;rw[aL]at hi;rw[List.getElem_take];exact h i j omT hj omT
def Zw{c:Ca}:CaG c↔fS c=true∧c.ok:=by
 constructor
 ·intro h;refine⟨(eS c).2 ⟨⟨h.sets,h.ways⟩,λk s hs=>(fN c k s).2 ?_⟩,⟨by have:=h.sets;omega,λs hs=>?_⟩⟩
  ·have g:=h.set k s hs;refine⟨g.len,λi x hx=>?_⟩;have gw:=g.way x (aB hx);exact⟨gw.line,gw.set,gw.data,Vz.2 g.one i x hx⟩
  ·obtain⟨k,hk,rfl⟩:=fY hs;have g:=h.set k _ (aA hk);refine⟨by have:=g.len;have:=h.ways;omega,λx hx=>⟨(g.way x hx).le⟩⟩
 ·rintro⟨h,ok⟩;obtain⟨⟨h1,h2⟩,h3⟩:=(eS c).1 h;refine⟨h1,h2,λk s hs=>?_⟩;obtain⟨g1,g2⟩:=(fN c k s).1 (h3 k s hs);refine⟨g1,λw hw=>?_,Vz.1 λi x hx=>(g2 i x hx).2.2.2⟩;obtain⟨i,hi,rfl⟩:=fY hw;have g:=g2 i _ (aA hi);exact⟨g.1,g.2.1,g.2.2.1,((ok.set s (aB hs)).2 _ hw).line⟩
theorem CaG.with{c:Ca}(h:CaG c){k:Nat}{s:List Wy}(hs:SetG c.sets.length c.ways k s):CaG (qJ c k s):=by
 have hl:(c.sets.set k s).length=c.sets.length:=bY ..;refine⟨by show(c.sets.set k s).length=1∨(c.sets.set k s).length=2∨(c.sets.set k s).length=4;rw[hl];exact h.sets,h.ways,λj t ht=>?_⟩;show SetG (c.sets.set k s).length c.ways j t;rw[hl];rw[show(qJ c k s).sets=c.sets.set k s from rfl,mQ]at ht;split at ht
 ·rename_i e;subst e;split at ht
  ·injection ht with ht;subst ht;exact hs
  ·cases ht
 ·exact h.set j t ht
def Ev{α:Type}{l:List α}{k:Nat}(h:k<l.length):(eU l k).Perm l:=by
 unfold eU;rw[aA h];rw[List.singleton_append,nX];refine(List.perm_middle.symm).trans ?_;rw[<-bR h,gC]
theorem SetG.perm{n:Nat}{ways:Int}{k:Nat}{s t:List Wy}(h:SetG n ways k s)(p:t.Perm s):SetG n ways k t:=
 ⟨by rw[p.length_eq];exact h.len,λw hw=>h.way w (p.mem_iff.1 hw),(p.map _).nodup_iff.2 h.one⟩
theorem SetG.modHd{n:Nat}{ways:Int}{k:Nat}{s:List Wy}(h:SetG n ways k s){f:Wy->Wy}(hf:∀w∈s,(f w).line=w.line∧((f w).data.size=0∨(f w).data.size=16)):SetG n ways k (modHd f s):=by
 cases s with
 |nil=>exact h
 | cons x l=>
  have hx:=hf x (bI ..);have g:=h.way x (bI ..);refine⟨h.len,λw hw=>?_,?_⟩
  ·rcases al_List_mem_cons.1 hw with rfl|hw
   ·exact⟨by rw[hx.1];exact g.line,by rw[hx.1];exact g.set,hx.2,by rw[hx.1];exact g.le⟩
   ·exact h.way w (bP _ hw)
  ·show((f x).line::l.map (·.line)).Nodup;rw[hx.1];exact h.one
theorem CaG.at{c:Ca}(h:CaG c){k:Nat}(hk:k<c.sets.length):SetG c.sets.length c.ways k (pH c k):=by
 rw[vA (aA hk)];exact h.set k _ (aA hk)
theorem CaG.touch{c:Ca}(h:CaG c)(line:Nat):CaG (oK c line):=by
 by_cases hF:(bG c line).2.isSome=true
 ·rw[Di hF];have ff:=pS hF;exact h.with ((h.at ff.2.2.1).perm (Ev ff.2.2.2))
 ·rw[Dj (by simpa using hF)];exact h
def Pz(d:ByteArray):(dB d).size=0∨(dB d).size=16:=by
 unfold dB;split
 ·right;assumption
 ·left;rfl
theorem CaG.put{c:Ca}(h:CaG c){line:Nat}(hl:line<=4294967295)(d:ByteArray)(b:Bool):CaG (pC c line d b).1:=by
 have hR:=(Zw.1 h).1;by_cases hF:(bG c line).2.isSome=true
 ·rw[Cb hF];have ff:=pS hF;have g:=(h.at ff.2.2.1).perm (Ev ff.2.2.2);refine h.with (g.modHd λw hw=>⟨rfl,?_⟩);split
  ·exact(g.way w hw).data
  ·exact Pz d
 ·have hF':(bG c line).2.isSome=false:=by simpa using hF
  rw[AP hR hF'];have e:=rU (line:=line) hR;have hk:(bG c line).1<c.sets.length:=by rw[e];exact AN (kE hR).1 _
  have hn:jG (pH c (bG c line).1) (lineOf line)=none:=by rw[e]at hF' ⊢;simpa using hF'
  have g:=h.at hk;have gw:WyG c.sets.length (bG c line).1 ⟨lineOf line,b,dB d⟩:=⟨by show lineOf (lineOf line)=lineOf line;unfold lineOf;omega,by rw[e];rfl,Pz d,dT hl⟩;split
  ·rename_i hw;refine h.with ⟨?_,λw hw=>?_,?_⟩
   ·have:=h.ways;rw[bN,oC];omega
   ·rcases al_List_mem_cons.1 hw with rfl|hw
    ·exact gw
    ·exact g.way w (oD _ hw)
   ·rw[jI,List.nodup_cons];refine⟨λhm=>?_,g.one.sublist ((List.dropLast_sublist _).map _)⟩;obtain⟨w,hw,e⟩:=sY.1 hm;exact Py.1 hn w (oD _ hw) e
  ·rename_i hw;refine h.with ⟨?_,λw hw=>?_,?_⟩
   ·have:=g.len;rw[bN];push_cast;omega
   ·rcases al_List_mem_cons.1 hw with rfl|hw
    ·exact gw
    ·exact g.way w hw
   ·rw[jI,List.nodup_cons];refine⟨λhm=>?_,g.one⟩;obtain⟨w,hw,e⟩:=sY.1 hm;exact Py.1 hn w hw e
def NG{d b:ByteArray}{a:Nat}(h:b.size+a<=d.size):(EL d a b).size=d.size:=by
 unfold EL;simp only[kC,dX];omega
theorem CaG.write{c:Ca}(h:CaG c)(a:Nat)(b:ByteArray):CaG (tV c a b).1:=by
 by_cases hF:(bG c a).2.isSome=true
 ·have ff:=pS hF;rw[As b hF rfl (aA ff.2.2.2)];split
  ·exact h
  ·rename_i hq;have g:=(h.at ff.2.2.1).perm (Ev ff.2.2.2);have hd:=(h.at ff.2.2.1).way _ (lH ff.2.2.2);have hd2:=hd.data;have e:eU (pH c (bG c a).1) ((bG c a).2.getD 0)=(pH c (bG c a).1)[(bG c a).2.getD 0]::((pH c (bG c a).1).take ((bG c a).2.getD 0)++(pH c (bG c a).1).drop ((bG c a).2.getD 0+1)):=by
    unfold eU;rw[aA ff.2.2.2];rfl
   refine h.with ?_;rw[e]at g⊢;have g1:=g.way _ (bI ..);refine⟨g.len,λw hw=>?_,g.one⟩;rcases al_List_mem_cons.1 hw with rfl|hw
   ·refine⟨g1.line,g1.set,.inr ?_,g1.le⟩;rw[NG omT];omega
   ·exact g.way w (bP _ hw)
 ·rw[Gv b (by simpa using hF)];exact h
theorem CaG.clean{c:Ca}(h:CaG c)(line:Nat):CaG (qO c line):=by
 by_cases hF:(bG c line).2.isSome=true
 ·have ff:=pS hF;rw[Dk hF rfl];have g:=h.at ff.2.2.1;have hm:(((pH c (bG c line).1).modify ((bG c line).2.getD 0) λw=>{w with dirty:=false}).map (·.line))=(pH c (bG c line).1).map (·.line):=by
   apply dC;intro i;simp only[bD,oE];split<;>simp[Option.map_map,Function.comp_def]
  refine h.with ⟨by rw[List.length_modify];exact g.len,λw hw=>?_,by rw[hm];exact g.one⟩;obtain⟨i,hi⟩:=List.getElem?_of_mem hw;rw[oE]at hi;obtain⟨v,hv,rfl⟩:=FI.1 hi;have gv:=g.way v (aB hv);split
  ·exact⟨gv.line,gv.set,gv.data,gv.le⟩
  ·exact gv
 ·rw[Dl (by simpa using hF)];exact h
theorem CaG.dirty{c:Ca}(h:CaG c){w:Wy}(hw:cT c=some w):w.line<=4294967295:=by
 unfold cT at hw;split at hw
 ·have:=List.mem_of_find?_eq_some hw;obtain⟨s,hs,hw⟩:=List.mem_flatten.1 this;obtain⟨k,hk,rfl⟩:=fY hs;exact((h.set k _ (aA hk)).way w hw).le
 ·cases hw
def Mk{q:List Req}(h:∀x∈q,x.ok){kind:Int}{line:Nat}{left:Int}{d:ByteArray}(hl:line<=4294967295):∀x∈xK q kind line left d,x.ok:=by
 intro x hx;unfold xK at hx;rcases al_List_mem_append.1 hx with hx|hx
 ·exact h x hx
 ·rw[uO.1 hx];exact⟨hl⟩
def Jq(q:List Req)(kind:Int)(line:Nat)(left:Int)(d:ByteArray):(xK q kind line left d).length=q.length+1:=by unfold xK;simp
theorem Co.okM.gd{c:Co}{n:Nat}(h:c.okM n):CaG c.data:=Zw.2 ⟨h.data,h.ok.data⟩
theorem Co.okM.gw{c:Co}{n:Nat}(h:c.okM n):CaG c.words:=Zw.2 ⟨h.words,h.ok.words⟩
theorem Co.okM.mono{c:Co}{n m:Nat}(h:c.okM n)(hm:n<=m)(hb:m<=890000):c.okM m:=
 ⟨⟨h.ok.conf,h.ok.prog,h.ok.progo,h.ok.r,h.ok.fetch,h.ok.fet,h.ok.feto,h.ok.rob,h.ok.robo,h.ok.sto,h.ok.stoo,h.ok.data,h.ok.words,aN h.ok.bus hm,h.ok.buso,h.ok.asked,h.ok.guessed,h.ok.mem,h.ok.guess,aN h.ok.ret hm,h.ok.reto⟩,hb,h.cf,h.data,h.words,h.guess,h.rob,h.fet,h.sto,h.prog,h.mem,h.std⟩
def Ew(z:Int):wrap64 z<=9223372036854775807:=by unfold wrap64;omega
theorem Co.okM.busData{c:Co}{n:Nat}(h:c.okM n){q:List Req}{d:Ca}{a:Int}(hq:q.length<=n+1)(hqo:∀x∈q,x.ok)(hd:CaG d)(ha:a<=9223372036854775807)(hb:n+1<=890000):Co.okM {c with bus:=q,data:=d,asked:=a} (n+1):=
 ⟨⟨h.ok.conf,h.ok.prog,h.ok.progo,h.ok.r,h.ok.fetch,h.ok.fet,h.ok.feto,h.ok.rob,h.ok.robo,h.ok.sto,h.ok.stoo,(Zw.1 hd).2,h.ok.words,hq,hqo,ha,h.ok.guessed,h.ok.mem,h.ok.guess,qT h.ok.ret,h.ok.reto⟩,hb,h.cf,(Zw.1 hd).1,h.words,h.guess,h.rob,h.fet,h.sto,h.prog,h.mem,h.std⟩
def sK{c:Co}{n:Nat}(h:c.okM n)(hb:n+1<=890000)(kind:Int){line:Nat}(hl:line<=4294967295)(d:ByteArray):(iU c kind line d).okM (n+1):=
 h.busData (by rw[Jq];have:=h.ok.bus;omega) (Mk h.ok.buso hl) h.gd (Ew _) hb
def PA{d:Ca}{q:List Req}{m:ByteArray}{line:Nat}{left:Int}(hd:CaG d)(hq:∀x∈q,x.ok)(hl:line<=4294967295):CaG (gV d q m line left).1∧(gV d q m line left).2.1.length<=q.length+1∧∀x∈(gV d q m line left).2.1,x.ok:=by
 unfold gV;split
 ·exact⟨hd,fI _,hq⟩
 ·split
  ·exact⟨hd.touch _,fI _,hq⟩
  ·have hp:=hd.put (dT hl) (Fl (jR q m) (lineOf line)) false;have hg:=Gq (Zw.1 hd).2 (lineOf line) (Fl (jR q m) (lineOf line)) false;generalize pC d (lineOf line) (Fl (jR q m) (lineOf line)) false=t at hp hg;obtain⟨e,gone,went⟩:=t;dsimp only at hp hg⊢;split
   ·exact⟨hp,by rw[Jq];exact aC _,Mk hq hg⟩
   ·exact⟨hp,fI _,hq⟩
def Ex{c:Co}{n:Nat}(h:c.okM n)(hb:n+1<=890000){line:Nat}(hl:line<=4294967295):(fC c line).okM (n+1):=by
 have hk:=PA (m:=c.mem) (left:=kM c.conf c.asked) h.gd h.ok.buso hl;unfold fC;generalize gV c.data c.bus c.mem line (kM c.conf c.asked)=t at hk;obtain⟨d,q,a⟩:=t;dsimp only at hk⊢;refine h.busData (by have:=h.ok.bus;omega) hk.2.2 hk.1 ?_ hb;split
 ·exact Ew _
 ·exact h.ok.asked
def PB{l:List Pt}{c:Ca}(hc:CaG c):CaG (nO l c).2.1∧(nO l c).1.length<=l.length∧∀x∈(nO l c).1,x∈l:=by
 unfold nO
 cases l with
 |nil=>exact⟨hc,aC _,λx h=>h⟩
 |cons p l=>
  dsimp only;split
  ·exact⟨hc.write _ _,fI _,λx h=>bP _ h⟩
  ·exact⟨hc,aC _,λx h=>h⟩
def eM{c:Co}{n:Nat}(h:c.okM n):(aZ c).okM n:=by
 have hk:=PB (l:=c.stores) h.gd;exact⟨⟨h.ok.conf,h.ok.prog,h.ok.progo,h.ok.r,h.ok.fetch,h.ok.fet,h.ok.feto,h.ok.rob,h.ok.robo,aN hk.2.1 h.ok.sto,λx hx=>h.ok.stoo x (hk.2.2 x hx),(Zw.1 hk.1).2,h.ok.words,h.ok.bus,h.ok.buso,h.ok.asked,h.ok.guessed,h.ok.mem,h.ok.guess,h.ok.ret,h.ok.reto⟩,h.nb,h.cf,(Zw.1 hk.1).1,h.words,h.guess,h.rob,h.fet,aN hk.2.1 h.sto,h.prog,h.mem,λx hx=>h.std x (hk.2.2 x hx)⟩
def jL(c:Co):pT c=kH (if(nO c.stores c.data).2.2=false∧(aZ c).stores≠[]then mO (aZ c)else aZ c):=by
 unfold pT aZ
 cases hs:c.stores with
 |nil=>simp[nO]
 | cons p l=>
  dsimp only
  cases hq:(nO (p::l) c.data).2.2 with
  |true=>simp
  | false=>
   have:(nO (p::l) c.data).1=p::l:=by
    unfold nO at hq⊢;dsimp only at hq⊢;by_cases hw:(tV c.data p.addr p.data).2=true
    ·rw[if_pos hw]at hq;cases hq
    ·rw[if_neg hw]
   simp[this]
def c2a{a b:Bool}:cR a b false=(a&&b):=by cases a<;>rfl
def c2o{a b:Bool}:cR a true b=(a||b):=by cases a<;>rfl
def tP{d:Co}{p:Pt}(hp:d.stores[0]?=some p):mO d=if DN d.bus (lineOf p.addr) 3=false∧qZ d true=true then iU d 3 (lineOf p.addr) oX else d:=by
 unfold mO
 cases hs:d.stores with
 |nil=>rw[hs]at hp;simp at hp
 |cons y l=>rw[hs]at hp;simp at hp;subst hp;rfl
def uZ{d:Co}(h:(cT d.data).isSome=true∧((cT d.data).getD qI).data.size≠0):mD d={iU d 4 ((cT d.data).getD qI).line ((cT d.data).getD qI).data with data:=qO d.data ((cT d.data).getD qI).line}:=by
 unfold mD
 cases hd:cT d.data with
 |none=>rw[hd]at h;simp at h
 |some w=>rw[hd]at h;exact if_pos h.2
def wV{d:Co}(h: ¬((cT d.data).isSome=true∧((cT d.data).getD qI).data.size≠0)):mD d=d:=by
 unfold mD
 cases hd:cT d.data with
 |none=>rfl
 |some w=>rw[hd]at h;exact if_neg λe=>h ⟨rfl,e⟩
theorem CaG.dirtyLe{c:Ca}(h:CaG c):((cT c).getD qI).line<=4294967295:=by
 cases hd:cT c with
 |none=>exact aE _
 |some w=>exact h.dirty hd
def Vy(c:Co)(nb:Nat)(hm:c.okM nb)(hb:nb+2<=890000)(kR:Bool)(xR:List (List AV))(kF:Bool)(xF:List (List AV))(kT:Bool)(xT:List (List AV)):qE C0.P C0.G 31 [.ptr 0 0] (heapF [(0,.box (mcX c (.sl 17 xR kR) (.sl 2 xF kF) (.sl 2 (c.stores.map ptL) false) (.sl 9 xT kT)))]) 1 (λx h'=>x=.tup []∧h'=heapF [(0,.box (mcX (pT c) (.sl 17 xR kR) (.sl 2 xF kF) (.sl 2 ((pT c).stores.map ptL) false) (.sl 9 xT kT)))]):=by
 refine HCall.intro (C:=C1) (s:=1) c1Ok.at Tryz.func31 rfl rfl (by kernel_rfl) rfl rfl<|qSC 0 rfl<|cRg<|oR 10 rfl<|rCi rfl (XZ c.stores c.data hm.ok.data (by have:=hm.sto;omega) hm.ok.stoo)<|oR 4 rfl<|rAl 16 rfl rfl<|oR 1 rfl<|rSt rfl<|oR 1 rfl<|rE 20<|qXC 0 rfl<|Fu rfl rfl<|oR 7 rfl<|rSt rfl<|oR 3 rfl<|rSt rfl<|rE 32<|And.intro (by kernel_rfl)<|qX 0 rfl<|gS rfl id<|gS rfl id<|gS rfl id<|gS rfl id<|gBS rfl id (bT ptL ((aZ c).stores))<|gBS rfl id (okB (gtN _ _))<|cU rfl rfl rfl (λh=>h)<|qRC 0 rfl<|aS rfl (λh1=>?_) (λh1=>?_)
 ·have hns:((nO c.stores c.data).2.2=false∧(aZ c).stores≠[]):=by have z:=h1;simpa [c2a,eV]using z
  have hpos:0<(aZ c).stores.length:=eV.2 hns.2;obtain⟨p,hp⟩:∃y_,((aZ c).stores)[0]?=some y_:=⟨_,aA omT⟩;have hpo:=(eM hm).ok.stoo p (aB hp);refine qC 0 rfl<|ID (ptL p) (x:=.dp 2 0 (ptL p)) rfl rfl rfl (⟨by decide,fW hp⟩) rfl<|qR 0 rfl<|rCi rfl (tT p.addr hpo.addr)<|qR 0 rfl<|rV (.sl 1 ([[vI 3]]) true) rfl<|rCl (x:=vB (DN c.bus (lineOf p.addr) 3)) rfl (.inl rfl) ((show cA C0 _ [_,_,.sl 1 ([(3:Int)].map iK) true] _ from by rw[<-Js];exact QU c.bus (lineOf p.addr) [3] false true (by have:=hm.bus;omega) (λx hx=>(hm.ok.buso x hx).line) (dT hpo.addr) (by decide)))<|qR 0 rfl<|jU (x:=vB (qZ (aZ c) true)) (g:= !(DN c.bus (lineOf p.addr) 3)) rfl rfl rfl rfl (λh=>h) rfl rfl rfl (.inr ⟨rfl,⟨trivial,trivial,trivial⟩⟩) rfl (λhg=>SJ (aZ c) nb (eM hm) (.sl 17 xR kR) (.sl 2 xF kF) (.sl 2 (((aZ c).stores).map ptL) false) (.sl 9 xT kT) true)<|cU rfl rfl rfl (λh=>h)<|qRC 0 rfl<|aS rfl (λh2=>?_) (λh2=>?_)
  ·have hra:(DN (aZ c).bus (lineOf p.addr) 3=false∧qZ (aZ c) true=true):=by have z:=h2;show(DN c.bus _ _=false∧_);simpa [c2a]using z
   refine qC 0 rfl<|fV _ rfl rfl rfl ((XO (aZ c) nb (eM hm) 3 (lineOf p.addr) (⟨#[]⟩:ByteArray) (dT hpo.addr) kR xR kF xF false ((aZ c).stores.map ptL) kT xT).frameB (λz=>z) _ _ rfl ⟨⟨rfl,rfl,rfl,rfl⟩,trivial⟩ rfl rfl rfl rfl) ?_;rintro _ _ ⟨rfl,rfl⟩;refine qR 0 rfl<|rW (vN (((aZ c).stores).length)) rfl (bT ptL ((aZ c).stores))<|rW (vB (decide ((((aZ c).stores).length)>0))) rfl (okB (gtN _ _))<|qR 0 rfl<|gS rfl id<|gS rfl id<|gS rfl id<|gS rfl id<|gBS rfl id rfl<|cU rfl rfl rfl (by simp)<|qRC 0 rfl<|aS rfl (λh3=>?_) (λh3=>?_)
   ·have hlt:((aZ c).stores≠[]∨(iU (aZ c) 3 (lineOf p.addr) (⟨#[]⟩:ByteArray)).halt=0):=by have z:=h3;simpa [c2o,eV]using z
    refine qCF 0 rfl ?_;rw[jL,if_pos hns,tP hp,if_pos hra];rw[show kH (iU (aZ c) 3 (lineOf p.addr) oX)=(iU (aZ c) 3 (lineOf p.addr) oX)from if_pos hlt];exact pK (rs:=[]) rfl (σ:=λz=>z) ⟨rfl,rfl⟩ rfl (cI (λz=>z) rfl rfl wH rfl)
   ·have hlt: ¬((aZ c).stores≠[]∨(iU (aZ c) 3 (lineOf p.addr) (⟨#[]⟩:ByteArray)).halt=0):=by have z:=h3;simpa [c2o,eV]using z
    refine qC 0 rfl<|rCi rfl (HP (iU (aZ c) 3 (lineOf p.addr) (⟨#[]⟩:ByteArray)).data (sK (eM hm) omT 3 (dT hpo.addr) oX).ok.data)<|qR 0 rfl<|gS rfl id<|gBS rfl id rfl<|cU rfl rfl rfl (λh=>h)<|qRC 0 rfl<|aS rfl (λh4=>?_) (λh4=>?_)
    ·have hq4:((cT (iU (aZ c) 3 (lineOf p.addr) (⟨#[]⟩:ByteArray)).data).isSome=true∧((cT (iU (aZ c) 3 (lineOf p.addr) (⟨#[]⟩:ByteArray)).data).getD qI).data.size≠0):=by have z:=h4;rw[zL]at z;simpa [qG]using z
     have hcd:Ca.ok (iU (aZ c) 3 (lineOf p.addr) (⟨#[]⟩:ByteArray)).data:=(sK (eM hm) omT 3 (dT hpo.addr) oX).ok.data;refine qC 0 rfl<|fV _ rfl rfl rfl ((XO (iU (aZ c) 3 (lineOf p.addr) (⟨#[]⟩:ByteArray)) (nb+1) (sK (eM hm) omT 3 (dT hpo.addr) oX) 4 (((cT (iU (aZ c) 3 (lineOf p.addr) (⟨#[]⟩:ByteArray)).data).getD qI).line) (((cT (iU (aZ c) 3 (lineOf p.addr) (⟨#[]⟩:ByteArray)).data).getD qI).data) ((sK (eM hm) omT 3 (dT hpo.addr) oX).gd.dirtyLe) kR xR kF xF false ((aZ c).stores.map ptL) kT xT).frameB (λz=>z) _ _ rfl ⟨⟨rfl,rfl,rfl,rfl⟩,trivial⟩ rfl rfl rfl rfl) ?_;rintro _ _ ⟨rfl,rfl⟩;refine qRC 0 rfl<|cRg<|oR 8 rfl<|rCi rfl (HL ((iU (iU (aZ c) 3 (lineOf p.addr) (⟨#[]⟩:ByteArray)) 4 (((cT (iU (aZ c) 3 (lineOf p.addr) (⟨#[]⟩:ByteArray)).data).getD qI).line) (((cT (iU (aZ c) 3 (lineOf p.addr) (⟨#[]⟩:ByteArray)).data).getD qI).data)).data) (((cT (iU (aZ c) 3 (lineOf p.addr) (⟨#[]⟩:ByteArray)).data).getD qI).line) hcd ((sK (eM hm) omT 3 (dT hpo.addr) oX).gd.dirtyLe))<|oR 3 rfl<|rSt rfl<|rE 121 ?_;rw[jL,if_pos hns,tP hp,if_pos hra];rw[show kH (iU (aZ c) 3 (lineOf p.addr) oX)=mD (iU (aZ c) 3 (lineOf p.addr) oX)from if_neg hlt,uZ (d:=(iU (aZ c) 3 (lineOf p.addr) oX)) hq4];exact qXF 0 rfl<|pK (rs:=[]) rfl (σ:=λz=>z) ⟨rfl,rfl⟩ rfl (cI (λz=>z) rfl rfl wH rfl)
    ·have hq4: ¬((cT (iU (aZ c) 3 (lineOf p.addr) (⟨#[]⟩:ByteArray)).data).isSome=true∧((cT (iU (aZ c) 3 (lineOf p.addr) (⟨#[]⟩:ByteArray)).data).getD qI).data.size≠0):=by have z:=h4;rw[zL]at z;simpa [qG]using z
     rw[jL,if_pos hns,tP hp,if_pos hra];rw[show kH (iU (aZ c) 3 (lineOf p.addr) oX)=mD (iU (aZ c) 3 (lineOf p.addr) oX)from if_neg hlt,wV (d:=(iU (aZ c) 3 (lineOf p.addr) oX)) hq4];exact qCF 0 rfl<|pK (rs:=[]) rfl (σ:=λz=>z) ⟨rfl,rfl⟩ rfl (cI (λz=>z) rfl rfl wH rfl)
  ·have hra: ¬(DN (aZ c).bus (lineOf p.addr) 3=false∧qZ (aZ c) true=true):=by have z:=h2;show ¬(DN c.bus _ _=false∧_);simpa [c2a]using z
   refine qC 0 rfl<|rW (vN (((aZ c).stores).length)) rfl (bT ptL ((aZ c).stores))<|rW (vB (decide ((((aZ c).stores).length)>0))) rfl (okB (gtN _ _))<|qR 0 rfl<|gS rfl id<|gS rfl id<|gS rfl id<|gS rfl id<|gBS rfl id rfl<|cU rfl rfl rfl (by simp)<|qRC 0 rfl<|aS rfl (λh5=>?_) (λh5=>?_)
   ·have hlt:((aZ c).stores≠[]∨c.halt=0):=by have z:=h5;simpa [c2o,eV]using z
    refine qCF 0 rfl ?_;rw[jL,if_pos hns,tP hp,if_neg hra];rw[show kH (aZ c)=(aZ c)from if_pos hlt];exact pK (rs:=[]) rfl (σ:=λz=>z) ⟨rfl,rfl⟩ rfl (cI (λz=>z) rfl rfl wH rfl)
   ·have hlt: ¬((aZ c).stores≠[]∨c.halt=0):=by have z:=h5;simpa [c2o,eV]using z
    refine qC 0 rfl<|rCi rfl (HP (aZ c).data (eM hm).ok.data)<|qR 0 rfl<|gS rfl id<|gBS rfl id rfl<|cU rfl rfl rfl (λh=>h)<|qRC 0 rfl<|aS rfl (λh6=>?_) (λh6=>?_)
    ·have hq4:((cT (aZ c).data).isSome=true∧((cT (aZ c).data).getD qI).data.size≠0):=by have z:=h6;rw[zL]at z;simpa [qG]using z
     have hcd:Ca.ok (aZ c).data:=(eM hm).ok.data;refine qC 0 rfl<|fV _ rfl rfl rfl ((XO (aZ c) nb (eM hm) 4 (((cT (aZ c).data).getD qI).line) (((cT (aZ c).data).getD qI).data) ((eM hm).gd.dirtyLe) kR xR kF xF false ((aZ c).stores.map ptL) kT xT).frameB (λz=>z) _ _ rfl ⟨⟨rfl,rfl,rfl,rfl⟩,trivial⟩ rfl rfl rfl rfl) ?_;rintro _ _ ⟨rfl,rfl⟩;refine qRC 0 rfl<|cRg<|oR 8 rfl<|rCi rfl (HL ((iU (aZ c) 4 (((cT (aZ c).data).getD qI).line) (((cT (aZ c).data).getD qI).data)).data) (((cT (aZ c).data).getD qI).line) hcd ((eM hm).gd.dirtyLe))<|oR 3 rfl<|rSt rfl<|rE 118 ?_;rw[jL,if_pos hns,tP hp,if_neg hra];rw[show kH (aZ c)=mD (aZ c)from if_neg hlt,uZ (d:=(aZ c)) hq4];exact qXF 0 rfl<|pK (rs:=[]) rfl (σ:=λz=>z) ⟨rfl,rfl⟩ rfl (cI (λz=>z) rfl rfl wH rfl)
    ·have hq4: ¬((cT (aZ c).data).isSome=true∧((cT (aZ c).data).getD qI).data.size≠0):=by have z:=h6;rw[zL]at z;simpa [qG]using z
     rw[jL,if_pos hns,tP hp,if_neg hra];rw[show kH (aZ c)=mD (aZ c)from if_neg hlt,wV (d:=(aZ c)) hq4];exact qCF 0 rfl<|pK (rs:=[]) rfl (σ:=λz=>z) ⟨rfl,rfl⟩ rfl (cI (λz=>z) rfl rfl wH rfl)
 ·have hns: ¬((nO c.stores c.data).2.2=false∧(aZ c).stores≠[]):=by have z:=h1;simpa [c2a,eV]using z
  refine qC 0 rfl<|rW (vN (((aZ c).stores).length)) rfl (bT ptL ((aZ c).stores))<|rW (vB (decide ((((aZ c).stores).length)>0))) rfl (okB (gtN _ _))<|qR 0 rfl<|gS rfl id<|gS rfl id<|gS rfl id<|gS rfl id<|gBS rfl id rfl<|cU rfl rfl rfl (by simp)<|qRC 0 rfl<|aS rfl (λh7=>?_) (λh7=>?_)
  ·have hlt:((aZ c).stores≠[]∨c.halt=0):=by have z:=h7;simpa [c2o,eV]using z
   refine qCF 0 rfl ?_;rw[jL,if_neg hns];rw[show kH (aZ c)=(aZ c)from if_pos hlt];exact pK (rs:=[]) rfl (σ:=λz=>z) ⟨rfl,rfl⟩ rfl (cI (λz=>z) rfl rfl wH rfl)
  ·have hlt: ¬((aZ c).stores≠[]∨c.halt=0):=by have z:=h7;simpa [c2o,eV]using z
   refine qC 0 rfl<|rCi rfl (HP (aZ c).data (eM hm).ok.data)<|qR 0 rfl<|gS rfl id<|gBS rfl id rfl<|cU rfl rfl rfl (λh=>h)<|qRC 0 rfl<|aS rfl (λh8=>?_) (λh8=>?_)
   ·have hq4:((cT (aZ c).data).isSome=true∧((cT (aZ c).data).getD qI).data.size≠0):=by have z:=h8;rw[zL]at z;simpa [qG]using z
    have hcd:Ca.ok (aZ c).data:=(eM hm).ok.data;refine qC 0 rfl<|fV _ rfl rfl rfl ((XO (aZ c) nb (eM hm) 4 (((cT (aZ c).data).getD qI).line) (((cT (aZ c).data).getD qI).data) ((eM hm).gd.dirtyLe) kR xR kF xF false ((aZ c).stores.map ptL) kT xT).frameB (λz=>z) _ _ rfl ⟨⟨rfl,rfl,rfl,rfl⟩,trivial⟩ rfl rfl rfl rfl) ?_;rintro _ _ ⟨rfl,rfl⟩;refine qRC 0 rfl<|cRg<|oR 8 rfl<|rCi rfl (HL ((iU (aZ c) 4 (((cT (aZ c).data).getD qI).line) (((cT (aZ c).data).getD qI).data)).data) (((cT (aZ c).data).getD qI).line) hcd ((eM hm).gd.dirtyLe))<|oR 3 rfl<|rSt rfl<|rE 95 ?_;rw[jL,if_neg hns];rw[show kH (aZ c)=mD (aZ c)from if_neg hlt,uZ (d:=(aZ c)) hq4];exact qXF 0 rfl<|pK (rs:=[]) rfl (σ:=λz=>z) ⟨rfl,rfl⟩ rfl (cI (λz=>z) rfl rfl wH rfl)
   ·have hq4: ¬((cT (aZ c).data).isSome=true∧((cT (aZ c).data).getD qI).data.size≠0):=by have z:=h8;rw[zL]at z;simpa [qG]using z
    rw[jL,if_neg hns];rw[show kH (aZ c)=mD (aZ c)from if_neg hlt,wV (d:=(aZ c)) hq4];exact qCF 0 rfl<|pK (rs:=[]) rfl (σ:=λz=>z) ⟨rfl,rfl⟩ rfl (cI (λz=>z) rfl rfl wH rfl)
def WB(a:Addr)(k:Nat)(w:World):Calls Tryz.prog 46 #[.slice (some a) 0 k] w λe w'=>∃v,e=.returned v∧Below w.heap.size w w'∧∃A c,v=.slice A 0 c∧c<=maxLen:=by
 obtain⟨i0,z0,hi, -⟩:=(c0Ok.ty 95 _ rfl).info
 go_enter Tryz.func46,Tryz.ntmps46
 have hb:Sem.run Tryz.prog (binOp .eql 31 (.slice (some a) 0 k) (.slice none 0 0)) w=.ok (.bool false) w:=by
  have e1:(Op.equal 31 (.slice (some a) 0 k) (.slice none 0 0)).run Tryz.prog w=.ok (some a).isNone w:=Bl Tryz.prog w 9999 _ 95 (c0Ok.ty 31 _ rfl).kd _ _ _;simp only[binOp,Sem.run_bind,e1,Result.andThen_ok];rfl
 go_wp2_with (first|(rw[hb];simp only[Result.andThen_ok,Oper.upon])|(at_builtin;refine yD rfl (.tmp 5) (.tmp 6) 31 rfl 95 i0 (c0Ok.ty 31 _ rfl).kd hi _ _ _ _ rfl rfl ?_))
 go_ret
 exact⟨_,rfl,(Below.refl _ _).alloc (aC _) _,_,_,rfl,aE _⟩
def Nc(k:Nat):cA C0 46 [.v (.slice none 0 k)] (.sl 0 [] true):=by
 refine cA.intro c0Ok Tryz.func46 rfl rfl (by kernel_rfl) rfl<|qS 0 rfl<|rV (vB true) rfl<|qRF 1 rfl ?_;exact fT rfl rfl
def TK(ck:Bool):cA C0 46 [.sl 17 [] ck] (.sl 17 [] false):=by
 refine⟨(Nc 0).1,λS w vs hS hG hr=>?_⟩
 match vs,hr with
 |[],hr=>simp[RepL]at hr
 |_::_::_,hr=>simp[RepL]at hr
 | [v],hr=>
  have h0:=hr.2 0 _ v rfl rfl
  cases h0 with
  | sl _ _ _ A c b o u hc hm hcl hrs hA hw h1 h'=>
   cases A with
   |none=>exact((Nc c).sub (lP 17 false)).2 S w _ hS hG (RepL.cons (.v _) (RepL.nil _ _ _))
   |some a=>
    exact(WB a c w).mono λe w' ⟨v,h1,h2,A,c',h3,h4⟩=>⟨v,h1,h2,h3 ▸ .sl 17 [] false A c' 0 0 (λ_ _=>.bool false) (aE _) h4 (λh=>by cases h) (λ_ h=>by cases h) (λh=>absurd h (dU 0)) (λi row j a h=>by simp at h) (λ_ _=>rfl) λi row j a h=>by simp at h⟩
def TL{p:Prop}{H:AH}{s:Nat}(e:Ent)(l:List Ent):Res.fx p (.osl s 0 (([]:List (List AV)).length+((e::l).map enL).length) false) (upd H s (some (.arr (([]:List (List AV))++(e::l).map enL) 17)))=.fx p (.osl s 0 (l.length+1) false) (upd H s (some (.arr ((e::l).map enL) 17))):=by
 rw[iZ,aG,bN,cW,bF]
def WC(e:Ent)(l:List Ent)(ck:Bool)(hl:l.length<=1000):qE C0.P C0.G 46 [.sl 17 ((e::l).map enL) ck] (heapF []) 0 (λx h'=>x=.osl 0 0 (l.length+1) false∧h'=heapF [(0,.arr ((e::l).map enL) 17)]):=by
 refine HCall.intro (C:=C0) (s:=0) c0Ok.at Tryz.func46 rfl rfl (by kernel_rfl) rfl rfl<|qS 0 rfl<|rV (vB false) rfl<|qR 1 rfl<|rV (.sl 17 ([]) true) rfl<|qR 0 rfl<|rFx (x:=.osl 5 0 (l.length+1) false) (h':=upd _ 5 (some (.arr ((e::l).map enL) 17))) rfl rfl (TL e l) (⟨by simp only[aG,bN,cW,gJ];omega,by simp,trivial,trivial⟩)<|qRF 0 rfl ?_;exact pK (rs:=[.osl 5 0 (l.length+1) false]) rfl (r:=.osl 0 0 (l.length+1) false) (σ:=λ_=>5) ⟨rfl,rfl⟩ rfl (cI (λ_=>5) rfl rfl wH rfl)
def UF(l:List Ft)(ck:Bool)(hl:l.length<=1000000):cA C0 47 [.sl 2 (l.map ftL) ck] (.sl 2 (l.map ftL) true):=by
 refine cA.intro c0Ok Tryz.func47 rfl rfl (by kernel_rfl) rfl<|qS 0 rfl<|rW (vN l.length) rfl (bT ftL l)<|qR 0 rfl<|rW (vN l.length) rfl (bT ftL l)<|nW (.sl 2 ((l.take l.length).map ftL) true) rfl (zB (wX ftL l l.length)) (by refine⟨?_,?_,?_,?_⟩;all_goals (first|exact aH _|decide|(apply Fj.2;exact omT)|(show(_:Int)=(_:Int);congr 1;omega)|rfl))<|qRF 0 rfl<|fT rfl ?_;show AV.sl 2 (List.map ftL (List.take l.length l)) true=_;rw[cM]
def UG(l:List Pt)(ck:Bool)(hl:l.length<=1000000):cA C0 48 [.sl 2 (l.map ptL) ck] (.sl 2 (l.map ptL) true):=by
 refine cA.intro c0Ok Tryz.func48 rfl rfl (by kernel_rfl) rfl<|qS 0 rfl<|rW (vN l.length) rfl (bT ptL l)<|qR 0 rfl<|rW (vN l.length) rfl (bT ptL l)<|nW (.sl 2 ((l.take l.length).map ptL) true) rfl (zB (wX ptL l l.length)) (by refine⟨?_,?_,?_,?_⟩;all_goals (first|exact aH _|decide|(apply Fj.2;exact omT)|(show(_:Int)=(_:Int);congr 1;omega)|rfl))<|qRF 0 rfl<|fT rfl ?_;show AV.sl 2 (List.map ptL (List.take l.length l)) true=_;rw[cM]
def UH(l:List Req)(ck:Bool)(hl:l.length<=1000000):cA C0 49 [.sl 4 (l.map rqL) ck] (.sl 4 (l.map rqL) true):=by
 refine cA.intro c0Ok Tryz.func49 rfl rfl (by kernel_rfl) rfl<|qS 0 rfl<|rW (vN l.length) rfl (bT rqL l)<|qR 0 rfl<|rW (vN l.length) rfl (bT rqL l)<|nW (.sl 4 ((l.take l.length).map rqL) true) rfl (zB (wX rqL l l.length)) (by refine⟨?_,?_,?_,?_⟩;all_goals (first|exact aH _|decide|(apply Fj.2;exact omT)|(show(_:Int)=(_:Int);congr 1;omega)|rfl))<|qRF 0 rfl<|fT rfl ?_;show AV.sl 4 (List.map rqL (List.take l.length l)) true=_;rw[cM]
def UI(l:List Sp)(ck:Bool)(hl:l.length<=1000000):cA C0 50 [.sl 9 (l.map spL) ck] (.sl 9 (l.map spL) true):=by
 refine cA.intro c0Ok Tryz.func50 rfl rfl (by kernel_rfl) rfl<|qS 0 rfl<|rW (vN l.length) rfl (bT spL l)<|qR 0 rfl<|rW (vN l.length) rfl (bT spL l)<|nW (.sl 9 ((l.take l.length).map spL) true) rfl (zB (wX spL l l.length)) (by refine⟨?_,?_,?_,?_⟩;all_goals (first|exact aH _|decide|(apply Fj.2;exact omT)|(show(_:Int)=(_:Int);congr 1;omega)|rfl))<|qRF 0 rfl<|fT rfl ?_;show AV.sl 9 (List.map spL (List.take l.length l)) true=_;rw[cM]
def rA{c:Co}{fz:Fz}{R R' F F' S S' T T':AV}(hR:LeZ fz R R')(hF:LeZ fz F F')(hS:LeZ fz S S')(hT:LeZ fz T T'):LeL fz (mcX c R F S T) (mcX c R' F' S' T'):=
 ⟨.refl _,.refl _,.refl _,.refl _,.refl _,.refl _,.refl _,.refl _,.refl _,.refl _,.refl _,.refl _,.refl _,.refl _,.refl _,.refl _,.refl _,.refl _,.refl _,.refl _,.refl _,.refl _,.refl _,.refl _,.refl _,.refl _,.refl _,.refl _,.refl _,.refl _,.refl _,.refl _,.refl _,.refl _,.refl _,.refl _,.refl _,.refl _,.refl _,.refl _,.refl _,.refl _,.refl _,.refl _,.refl _,.refl _,.refl _,hF,hR,.refl _,hS,.refl _,.refl _,.refl _,.refl _,.refl _,.refl _,.refl _,.refl _,.refl _,.refl _,.refl _,.refl _,hT,trivial⟩
def RD{C:Ctx}{fn:Func}{Post:AV->AH->Prop}{s:Nat}{st stg:ASt}{rs:List AV}(h1:resA C st fn.results.toList=some rs)(hg:Ghosts ⟨FF (Da rs),st.h,st.n⟩ stg){r:AV}{h':AH}{σ:Nat->Nat}(hP:Post r h')(hk:keepB s σ (s+1)=true)(hW:Weak stg ⟨FF r,h',s+1⟩ σ):
  ∃rs,resA C st fn.results.toList=some rs∧GhostN ⟨FF (Da rs),st.h,st.n⟩ (λstg=>∃r h' σ,Post r h'∧keepB s σ (s+1)=true∧Weak stg ⟨FF r,h',s+1⟩ σ):=
 ⟨rs,h1,.mk _ hg ⟨r,h',σ,hP,hk,hW⟩⟩
def rB{x r:AV}{h:AH}{n0:Nat}{hp:List (Nat×Blk)}{n:Nat}(σ:Nat->Nat)(hx:x=uX σ r)(hb:mL n r=true)(hh:WH ⟨slotsF [(0,x)],h,n0⟩ n σ hp)(hi:DT ((hp.map (·.1)).map σ)=true):Weak ⟨slotsF [(0,x)],h,n0⟩ ⟨FF r,heapF hp,n⟩ σ:=by
 have W:=Weak.of_lists (st:=⟨slotsF [(0,x)],h,n0⟩) (l:=[(0,r)]) (hp:=hp) (n:=n) σ ⟨⟨hx,hb⟩,trivial⟩ hh hi;refine⟨λi=>?_,W.h,W.inj⟩;have:=W.t i
 cases i with
 |zero=>exact this
 |succ i=>exact .inl rfl
theorem Ghosts.snoc{a b c:ASt}{fz:Fz}(h:Ghosts a b)(k:Ghost b c fz):Ghosts a c:=by
 induction h with
 |refl=>exact .step fz k (.refl _)
 |step f g _ ih=>exact .step f g (ih k)
abbrev fzB (fz:Fz) (i:Nat):Prop:=match fz with|some (b,_,_)=>Nat.beq i b=false|none=>True
abbrev fzH (fz:Fz) (h:AH):Prop:=match fz with|some (x,rs,rows)=>h x=some (.arr rows rs)|none=>True
def ghX{st:ASt}{fz:Fz}{i:Nat}{cs ds:List AV}{l:List (Nat×Blk)}(h0:st.h i=some (.box cs))(hle:LeL fz cs ds)(hl:GH st fz l)(hz:fzB fz i:=by first|exact trivial|rfl):GH st fz ((i,.box ds)::l):=⟨⟨by rcases fz with _|⟨b,r,q⟩<;>exact hz,_,h0,.boxL hle⟩,hl⟩
def ghA{st:ASt}{fz:Fz}{i:Nat}{b:Blk}{l:List (Nat×Blk)}(h0:st.h i=some b)(hl:GH st fz l)(hz:fzB fz i:=by first|exact trivial|rfl):GH st fz ((i,b)::l):=⟨⟨by rcases fz with _|⟨b,r,q⟩<;>exact hz,_,h0,.refl _⟩,hl⟩
def Iy{C:Ctx}{fn:Func}{Post:AV->AH->Prop}{s:Nat}{st a:ASt}{hp:List (Nat×Blk)}(hg:Ghosts ⟨FF (.tup []),st.h,st.n⟩ a)(fz:Fz)(hP:Post (.tup []) (heapF hp))(hG:GH a fz hp)(h1:resA C st fn.results.toList=some []:=by rfl)(hb:fzH fz a.h:=by first|exact trivial|rfl)(ht:LeZ fz (a.t 0) (.tup []):=by exact .refl _)(hk:keepB s (λz=>z) (s+1)=true:=by rfl)(hh:WH ⟨slotsF [(0,.tup [])],heapF hp,a.n⟩ (s+1) (λz=>z) hp:=by exact wH)(hi:DT ((hp.map (·.1)).map (λz=>z))=true:=by rfl):
  ∃rs,resA C st fn.results.toList=some rs∧GhostN ⟨FF (Da rs),st.h,st.n⟩ (λstg=>∃r h' σ,Post r h'∧keepB s σ (s+1)=true∧Weak stg ⟨FF r,h',s+1⟩ σ):=
 RD (rs:=[]) h1 (hg.snoc (Ghost.of_lists (l:=[(0,.tup [])]) (by rcases fz with _|⟨b,r,q⟩<;>exact hb) ⟨ht,trivial⟩ hG)) hP hk (rB (λz=>z) rfl rfl hh hi)
def aaG(c:Co)(nb:Nat)(hm:c.okM nb)(kR kF kS kT:Bool):qE C0.P C0.G 24 [.ptr 0 0] (heapF [(0,.box (mcX c (.sl 17 [] kR) (.sl 2 (c.fetched.map ftL) kF) (.sl 2 (c.stores.map ptL) kS) (.sl 9 (c.retired.map spL) kT)))]) 1 (λx h'=>x=.tup []∧h'=heapF [(0,.box (mcX c (.sl 17 [] false) (.sl 2 (c.fetched.map ftL) true) (.sl 2 (c.stores.map ptL) true) (.sl 9 (c.retired.map spL) true)))]):=by
 refine HCall.intro (C:=C0) (s:=1) c0Ok.at Tryz.func24 rfl rfl (by kernel_rfl) rfl rfl<|qS 0 rfl<|rCi rfl (TK kR)<|qRN 0 rfl<|rSt rfl<|qR 0 rfl<|rCi rfl (UF c.fetched kF (by have:=hm.fet;omega))<|qRN 0 rfl<|rSt rfl<|qR 0 rfl<|rCi rfl (UG c.stores kS (by have:=hm.sto;omega))<|qRN 0 rfl<|rSt rfl<|qR 0 rfl<|rCi rfl (UH c.bus false (by have:=hm.bus;omega))<|qR 0 rfl<|rCi rfl (UI c.retired kT (by have:=hm.ret;omega)) ?_;exact qRF 0 rfl<|RD (rs:=[]) rfl (.step none (Ghost.of_lists (l:=[(0,.tup [])]) (hp:=[(0,.box (mcX c (.sl 17 [] false) (.sl 2 (c.fetched.map ftL) true) (.sl 2 (c.stores.map ptL) true) (.sl 9 (c.retired.map spL) true)))]) trivial ⟨.refl _,trivial⟩ ⟨⟨trivial,_,rfl,LeB.boxL ⟨.refl _,.refl _,.refl _,.refl _,.refl _,.refl _,.refl _,.refl _,.refl _,.refl _,.refl _,.refl _,.refl _,.refl _,.refl _,.refl _,.refl _,.refl _,.refl _,.refl _,.refl _,.refl _,.refl _,.refl _,.refl _,.refl _,.refl _,.refl _,.refl _,.refl _,.refl _,.refl _,.refl _,.refl _,.refl _,.refl _,.refl _,.refl _,.refl _,.refl _,.refl _,.refl _,.refl _,.refl _,.refl _,.refl _,.refl _,.refl _,.refl _,.refl _,.refl _,.refl _,.refl _,.refl _,.refl _,.clip _ _,.refl _,.refl _,.refl _,.refl _,.refl _,.refl _,.refl _,.refl _,trivial⟩⟩,trivial⟩) (.refl _)) (r:=.tup []) (σ:=λz=>z) ⟨rfl,rfl⟩ rfl (rB (λz=>z) rfl rfl wH rfl)
def aaH(c:Co)(nb:Nat)(hm:c.okM nb)(e:Ent)(l:List Ent)(hel:(e::l).length<=1000)(kR kF kS kT:Bool):qE C0.P C0.G 24 [.ptr 0 0] (heapF [(0,.box (mcX c (.sl 17 ((e::l).map enL) kR) (.sl 2 (c.fetched.map ftL) kF) (.sl 2 (c.stores.map ptL) kS) (.sl 9 (c.retired.map spL) kT)))]) 1 (λx h'=>x=.tup []∧h'=heapF [(0,.box (mcX c (.osl 1 0 (l.length+1) false) (.sl 2 (c.fetched.map ftL) true) (.sl 2 (c.stores.map ptL) true) (.sl 9 (c.retired.map spL) true))),(1,.arr ((e::l).map enL) 17)]):=by
 refine HCall.intro (C:=C0) (s:=1) c0Ok.at Tryz.func24 rfl rfl (by kernel_rfl) rfl rfl ?_;have hel2:l.length+1<=1000:=hel;refine qS 0 rfl<|fV _ rfl rfl rfl ((WC e l kR omT).frame0 _ _ rfl) ?_;rintro _ _ ⟨rfl,rfl⟩;refine qRN 0 rfl<|rSt rfl<|qR 0 rfl<|rCi rfl (UF c.fetched kF (by have:=hm.fet;omega))<|qRN 0 rfl<|rSt rfl<|qR 0 rfl<|rCi rfl (UG c.stores kS (by have:=hm.sto;omega))<|qRN 0 rfl<|rSt rfl<|qR 0 rfl<|rCi rfl (UH c.bus false (by have:=hm.bus;omega))<|qR 0 rfl<|rCi rfl (UI c.retired kT (by have:=hm.ret;omega)) ?_;exact qRF 0 rfl<|RD (rs:=[]) rfl (.step none (Ghost.of_lists (l:=[(0,.tup [])]) (hp:=[(0,.box (mcX c (.osl 7 0 (l.length+1) false) (.sl 2 (c.fetched.map ftL) true) (.sl 2 (c.stores.map ptL) true) (.sl 9 (c.retired.map spL) true))),(7,.arr ((e::l).map enL) 17)]) trivial ⟨.refl _,trivial⟩ ⟨⟨trivial,_,rfl,LeB.boxL ⟨.refl _,.refl _,.refl _,.refl _,.refl _,.refl _,.refl _,.refl _,.refl _,.refl _,.refl _,.refl _,.refl _,.refl _,.refl _,.refl _,.refl _,.refl _,.refl _,.refl _,.refl _,.refl _,.refl _,.refl _,.refl _,.refl _,.refl _,.refl _,.refl _,.refl _,.refl _,.refl _,.refl _,.refl _,.refl _,.refl _,.refl _,.refl _,.refl _,.refl _,.refl _,.refl _,.refl _,.refl _,.refl _,.refl _,.refl _,.refl _,.refl _,.refl _,.refl _,.refl _,.refl _,.refl _,.refl _,.clip _ _,.refl _,.refl _,.refl _,.refl _,.refl _,.refl _,.refl _,.refl _,trivial⟩⟩,⟨trivial,_,rfl,.refl _⟩,trivial⟩) (.refl _)) (r:=.tup []) (σ:=λz=>match z with|1=>7|z=>z) ⟨rfl,rfl⟩ rfl (rB (λz=>match z with|1=>7|z=>z) rfl rfl wH rfl)
def Pv{g:Gu}(h:g.ok)(pc:Nat)(i:SI):wY g pc i<=4294967295:=by
 unfold wY;split
 ·split
  ·cases hl:g.rets.getLast? with
   |none=>exact aE _
   |some x=>exact h.ro x (List.mem_of_getLast? hl)
  ·cases hs:g.slots[gL g pc]? with
   |none=>exact zP _
   |some s=>
    dsimp only;split
    ·exact(h.so s (aB hs)).next
    ·exact zP _
 ·exact zP _
def Pw{c:Cf}(h:∀x∈c.tape,x<=4294967295)(k:Int)(pc:Nat):yF c k pc<=4294967295:=by
 have hp:=HG h;unfold yF;generalize (cD c).tape=l at hp
 cases l with
 |nil=>exact zP _
 |cons y l=>
  show(y::l).getD _ _<=_;rw[bL]
  cases hq:(y::l)[(max k 0).toNat%(y::l).length]? with
  |none=>exact aE _
  |some x=>exact hp x (aB hq)
def Px{c:Co}{n:Nat}(h:c.okM n)(w:Nat):(cN c w).2<=4294967295:=by
 unfold cN;split
 ·exact zP _
 ·split
  ·exact Pv h.ok.guess _ _
  ·exact Pw h.conf.tp _ _
def Be(c:Co)(w:Nat):(cN c w).1.fetched=c.fetched:=by
 unfold cN;split
 ·rfl
 ·split<;>rfl
def gK(d:Co):Co:={d with words:=oK d.words (lineOf d.fetch)}
def AJ{c:Co}{n:Nat}(h:c.okM n):(gK c).okM n:=by
 have g:=Zw.1 (h.gw.touch (lineOf c.fetch));exact⟨⟨h.ok.conf,h.ok.prog,h.ok.progo,h.ok.r,h.ok.fetch,h.ok.fet,h.ok.feto,h.ok.rob,h.ok.robo,h.ok.sto,h.ok.stoo,h.ok.data,g.2,h.ok.bus,h.ok.buso,h.ok.asked,h.ok.guessed,h.ok.mem,h.ok.guess,h.ok.ret,h.ok.reto⟩,h.nb,h.cf,h.data,g.1,h.guess,h.rob,h.fet,h.sto,h.prog,h.mem,h.std⟩
def NF{c:Co}{n:Nat}(h:c.okM n)(w:Nat):(cN c w).1.okM n:=by
 unfold cN;split
 ·exact h
 ·split
  ·exact h
  ·exact⟨⟨h.ok.conf,h.ok.prog,h.ok.progo,h.ok.r,h.ok.fetch,h.ok.fet,h.ok.feto,h.ok.rob,h.ok.robo,h.ok.sto,h.ok.stoo,h.ok.data,h.ok.words,h.ok.bus,h.ok.buso,h.ok.asked,Ew _,h.ok.mem,h.ok.guess,h.ok.ret,h.ok.reto⟩,h.nb,h.cf,h.data,h.words,h.guess,h.rob,h.fet,h.sto,h.prog,h.mem,h.std⟩
def KU{c:Co}{n:Nat}(h:c.okM n)(hf:c.fetched.length<=999){x:Nat}(hx:x<=4294967295):(Ld c x).okM n:=by
 have hl:(c.fetched++[(⟨c.fetch,x⟩:Ft)]).length<=1000:=by simp;omega
 exact⟨⟨h.ok.conf,h.ok.prog,h.ok.progo,h.ok.r,hx,aN hl (by decide),sM h.ok.feto (sN ⟨h.ok.fetch,hx⟩),h.ok.rob,h.ok.robo,h.ok.sto,h.ok.stoo,h.ok.data,h.ok.words,h.ok.bus,h.ok.buso,h.ok.asked,h.ok.guessed,h.ok.mem,h.ok.guess,h.ok.ret,h.ok.reto⟩,h.nb,h.cf,h.data,h.words,h.guess,h.rob,hl,h.sto,h.prog,h.mem,h.std⟩
def xZ(d:Co):Co:=Ld (cN (gK d) (fetchW d.prog d.fetch)).1 (cN (gK d) (fetchW d.prog d.fetch)).2
def uB(d:Co):(xZ d).fetched=d.fetched++[⟨(cN (gK d) (fetchW d.prog d.fetch)).1.fetch,(cN (gK d) (fetchW d.prog d.fetch)).2⟩]:=by
 show(cN (gK d) _).1.fetched++_=_;rw[Be];rfl
def CG{c:Co}{n:Nat}(h:c.okM n)(hf:c.fetched.length<=999):(xZ c).okM n:=
 KU (NF (AJ h) _) (by rw[Be];exact hf) (Px (AJ h) _)
def pP{d:Co}{n:Nat}(h:d.stop=true∨(d.fetched.length:Int)>=d.conf.queue):eC n d=d:=by
 cases n with
 |zero=>rfl
 |succ n=>exact if_pos h
def rQ{d:Co}{n:Nat}(hn:0<n)(h: ¬(d.stop=true∨(d.fetched.length:Int)>=d.conf.queue))(hf:(fetchP d.prog d.fetch).isSome=false):eC n d={d with fetched:=d.fetched++[⟨d.fetch,up4 d.fetch⟩],stop:=true}:=by
 cases n with
 |zero=>cases hn
 |succ n=>exact(if_neg h).trans (if_pos hf)
def nM{d:Co}{n:Nat}(hn:0<n)(h: ¬(d.stop=true∨(d.fetched.length:Int)>=d.conf.queue))(hf: ¬(fetchP d.prog d.fetch).isSome=false)(hw:(bG d.words (lineOf d.fetch)).2.isSome=false):eC n d=if DN d.bus (lineOf d.fetch) 2=false∧qZ d false=true then iU d 2 (lineOf d.fetch) oX else d:=by
 cases n with
 |zero=>cases hn
 |succ n=>exact((if_neg h).trans (if_neg hf)).trans (if_pos hw)
def tO{d:Co}{n k:Nat}(hn:k<n)(h: ¬(d.stop=true∨(d.fetched.length:Int)>=d.conf.queue))(hf: ¬(fetchP d.prog d.fetch).isSome=false)(hw: ¬(bG d.words (lineOf d.fetch)).2.isSome=false):eC (n-(k+1)) (xZ d)=eC (n-k) d:=by
 rw[show n-k=(n-(k+1))+1 by omega];exact(((if_neg h).trans (if_neg hf)).trans (if_neg hw)).symm
def Vx(c:Co)(nb:Nat)(hm:c.okM nb)(w:Nat)(hw:w<=4294967295)(kR:Bool)(xR:List (List AV))(kF:Bool)(xF:List (List AV))(kS:Bool)(xS:List (List AV))(kT:Bool)(xT:List (List AV)):qE C0.P C0.G 79 [.ptr 0 0,vU w] (heapF [(0,.box (mcX c (.sl 17 xR kR) (.sl 2 xF kF) (.sl 2 xS kS) (.sl 9 xT kT)))]) 1 (λx h'=>x=vU (cN c w).2∧h'=heapF [(0,.box (mcX (cN c w).1 (.sl 17 xR kR) (.sl 2 xF kF) (.sl 2 xS kS) (.sl 9 xT kT)))]):=by
 refine HCall.intro (C:=C1) (s:=1) c1Ok.at Tryz.func79 rfl rfl (by kernel_rfl) rfl rfl<|qS 0 rfl<|rCi rfl (Io w (Cd hw))<|qR 0 rfl<|rW (vB ((decE w) != 0)) rfl (okB (neN _ _))<|qR 0 rfl<|jU (x:=vN (kindOf (kJ w).op)) (g:= !((decE w) != 0)) rfl rfl rfl rfl (λh=>h) rfl rfl rfl (.inl rfl) rfl (λhg=>pV (kJ w))<|gBS rfl id (okB (neN _ _))<|cU rfl rfl rfl (by simp)<|qRC 0 rfl<|aS rfl (λh1=>?_) (λh1=>?_)
 ·have hk1:(EM w=0∨kindOf (kJ w).op≠5):=by have z:=h1;have e:=Dh w;simp only[c2o,dI,dH,qB,gY,ne_eq]at z;grind
  have b1:(c.fetch+4)%4294967296<=4294967295:=aY (bE _ (by decide));refine qC 0 rfl<|rV (vU ((c.fetch+4)%4294967296)) rfl<|qRF 0 rfl ?_;rw[show cN c w=(c,up4 c.fetch)from if_pos hk1];exact pK (rs:=[vU ((c.fetch+4)%4294967296)]) rfl (r:=vU ((c.fetch+4)%4294967296)) (σ:=λz=>z) ⟨rfl,rfl⟩ rfl (cI (λz=>z) rfl rfl wH rfl)
 ·have hk1: ¬(EM w=0∨kindOf (kJ w).op≠5):=by have z:=h1;have e:=Dh w;simp only[c2o,dI,dH,qB,gY,ne_eq]at z;grind
  refine qCC 0 rfl<|aS rfl (λh2=>?_) (λh2=>?_)
  ·refine qCC 0 rfl<|cRg<|oR 11 rfl<|rCi rfl (QL c.guess c.fetch (kJ w) hm.ok.guess hm.ok.fetch (aY (Im w)))<|oR 1 rfl<|rE 36<|qXF 0 rfl ?_;rw[show cN c w=(c,wY c.guess c.fetch (kJ w))from(if_neg hk1).trans (if_pos h2)];exact pK (rs:=[vU (wY c.guess c.fetch (kJ w))]) rfl (r:=vU (wY c.guess c.fetch (kJ w))) (σ:=λz=>z) ⟨rfl,rfl⟩ rfl (cI (λz=>z) rfl rfl wH rfl)
  ·refine qCC 0 rfl<|cRg<|oR 15 rfl<|rCi rfl (PR c.conf c.guessed c.fetch hm.conf hm.ok.guessed hm.ok.fetch)<|oR 1 rfl<|rE 40<|qX 0 rfl<|rW (vI (wrap64 (c.guessed+1))) rfl (okI (w64 _))<|qRN 0 rfl<|rSt rfl<|qRF 0 rfl ?_;rw[show cN c w=({c with guessed:=wrap64 (c.guessed+1)},yF c.conf c.guessed c.fetch)from(if_neg hk1).trans (if_neg (by rw[h2];decide))];exact pK (rs:=[vU (yF c.conf c.guessed c.fetch)]) rfl (r:=vU (yF c.conf c.guessed c.fetch)) (σ:=λz=>z) ⟨rfl,rfl⟩ rfl (cI (λz=>z) rfl rfl wH rfl)
def SF(c:Co)(nb:Nat)(hm:c.okM nb)(w:Nat)(hw:w<=4294967295)(kR:Bool)(xR:List (List AV))(lF nF:Nat)(kF:Bool)(rF:List (List AV))(kS:Bool)(xS:List (List AV))(kT:Bool)(xT:List (List AV)):qE C0.P C0.G 79 [.ptr 0 0,vU w] (heapF [(0,.box (mcX c (.sl 17 xR kR) (.osl 1 lF nF kF) (.sl 2 xS kS) (.sl 9 xT kT))),(1,.arr rF 2)]) 2 (λx h'=>x=vU (cN c w).2∧h'=heapF [(0,.box (mcX (cN c w).1 (.sl 17 xR kR) (.osl 1 lF nF kF) (.sl 2 xS kS) (.sl 9 xT kT))),(1,.arr rF 2)]):=by
 refine HCall.intro (C:=C1) (s:=2) c1Ok.at Tryz.func79 rfl rfl (by kernel_rfl) rfl rfl<|qS 0 rfl<|rCi rfl (Io w (Cd hw))<|qR 0 rfl<|rW (vB ((decE w) != 0)) rfl (okB (neN _ _))<|qR 0 rfl<|jU (x:=vN (kindOf (kJ w).op)) (g:= !((decE w) != 0)) rfl rfl rfl rfl (λh=>h) rfl rfl rfl (.inl rfl) rfl (λhg=>pV (kJ w))<|gBS rfl id (okB (neN _ _))<|cU rfl rfl rfl (by simp)<|qRC 0 rfl<|aS rfl (λh1=>?_) (λh1=>?_)
 ·have hk1:(EM w=0∨kindOf (kJ w).op≠5):=by have z:=h1;have e:=Dh w;simp only[c2o,dI,dH,qB,gY,ne_eq]at z;grind
  have b1:(c.fetch+4)%4294967296<=4294967295:=aY (bE _ (by decide));refine qC 0 rfl<|rV (vU ((c.fetch+4)%4294967296)) rfl<|qRF 0 rfl ?_;rw[show cN c w=(c,up4 c.fetch)from if_pos hk1];exact pK (rs:=[vU ((c.fetch+4)%4294967296)]) rfl (r:=vU ((c.fetch+4)%4294967296)) (σ:=λz=>z) ⟨rfl,rfl⟩ rfl (cI (λz=>z) rfl rfl wH rfl)
 ·have hk1: ¬(EM w=0∨kindOf (kJ w).op≠5):=by have z:=h1;have e:=Dh w;simp only[c2o,dI,dH,qB,gY,ne_eq]at z;grind
  refine qCC 0 rfl<|aS rfl (λh2=>?_) (λh2=>?_)
  ·refine qCC 0 rfl<|cRg<|oR 11 rfl<|rCi rfl (QL c.guess c.fetch (kJ w) hm.ok.guess hm.ok.fetch (aY (Im w)))<|oR 1 rfl<|rE 37<|qXF 0 rfl ?_;rw[show cN c w=(c,wY c.guess c.fetch (kJ w))from(if_neg hk1).trans (if_pos h2)];exact pK (rs:=[vU (wY c.guess c.fetch (kJ w))]) rfl (r:=vU (wY c.guess c.fetch (kJ w))) (σ:=λz=>z) ⟨rfl,rfl⟩ rfl (cI (λz=>z) rfl rfl wH rfl)
  ·refine qCC 0 rfl<|cRg<|oR 15 rfl<|rCi rfl (PR c.conf c.guessed c.fetch hm.conf hm.ok.guessed hm.ok.fetch)<|oR 1 rfl<|rE 41<|qX 0 rfl<|rW (vI (wrap64 (c.guessed+1))) rfl (okI (w64 _))<|qRN 0 rfl<|rSt rfl<|qRF 0 rfl ?_;rw[show cN c w=({c with guessed:=wrap64 (c.guessed+1)},yF c.conf c.guessed c.fetch)from(if_neg hk1).trans (if_neg (by rw[h2];decide))];exact pK (rs:=[vU (yF c.conf c.guessed c.fetch)]) rfl (r:=vU (yF c.conf c.guessed c.fetch)) (σ:=λz=>z) ⟨rfl,rfl⟩ rfl (cI (λz=>z) rfl rfl wH rfl)
def SG(c:Co)(nb:Nat)(hm:c.okM nb)(kR:Bool)(xR:List (List AV))(kS:Bool)(xS:List (List AV))(kT:Bool)(xT:List (List AV)):qE C0.P C0.G 30 [.ptr 0 0] (heapF [(0,.box (mcX c (.sl 17 xR kR) (.sl 2 (c.fetched.map ftL) true) (.sl 2 xS kS) (.sl 9 xT kT)))]) 1 (λx h'=>x=.tup []∧h'=heapF [(0,.box (mcX (dS c) (.sl 17 xR kR) (.sl 2 ((dS c).fetched.map ftL) false) (.sl 2 xS kS) (.sl 9 xT kT)))]):=by
 refine HCall.intro (C:=C1) (s:=1) c1Ok.at Tryz.func30 rfl rfl (by kernel_rfl) rfl rfl ?_;obtain⟨W,hW,hW2⟩:∃W:Nat,c.conf.width=(W:Int)∧W<=2:=⟨c.conf.width.toNat,by have:=nN hm.cf;omega,by have:=nN hm.cf;omega⟩;refine qS 0 rfl<|rV (vB (c.halt != 0)) rfl<|qRC 0 rfl<|aS rfl (λh1=>?_) (λh1=>?_)
 ·have h1p:=xH h1;refine qCF 0 rfl ?_;have e:dS c=c:=if_pos h1p;rw[e];exact Iy (.refl _) none ⟨rfl,rfl⟩ (ghX rfl (rA (.refl _) (.clip _ _) (.refl _) (.refl _)) trivial)
 ·have h1p:=xI h1;refine qCC 0 rfl<|tC (κ:=Nat×Co×Bool) (λz_=>match z_ with|(k,d,false)=>⟨slotsF [(0,.ptr 0 0),(14,vB (c.halt != 0)),(20,vI c.conf.width),(21,vN k)],heapF [(0,.box (mcX d (.sl 17 xR kR) (.sl 2 (d.fetched.map ftL) true) (.sl 2 xS kS) (.sl 9 xT kT)))],15⟩|(k,d,true)=>⟨slotsF [(0,.ptr 0 0),(14,vB (c.halt != 0)),(20,vI c.conf.width),(21,vN k)],heapF [(0,.box (mcX d (.sl 17 xR kR) (.osl 14 0 d.fetched.length false) (.sl 2 xS kS) (.sl 9 xT kT))),(14,.arr (d.fetched.map ftL) 2)],15⟩) (λz_=>match z_ with|(k,d,_)=>k<=W∧d.okM nb∧eC (W-k) d=eC W c) (λz_=>W-z_.1) (0,c,false) (λs=>s) (Weak.of_lists (λs=>s) wT wH rfl) rfl (⟨aE _,hm,rfl⟩) ?_;intro z_ hk;obtain⟨k,d,b_⟩:=z_;cases b_
  ·have hkn:k<=W:=hk.1;have hkB:k<=2:=by omega
   have hd:d.okM nb:=hk.2.1;have hG:eC (W-k) d=eC W c:=hk.2.2;refine qS 0 rfl<|rV (vB (decide ((k:Int)<c.conf.width))) rfl<|qRC 0 rfl<|aS rfl (λh2=>?_) (λh2=>?_)
   ·have h2p:=of_decide_eq_true h2;refine qCC 0 rfl<|cRg<|oR 6 rfl<|gN rfl<|gS rfl id<|gS rfl id<|gS rfl id<|gS rfl id<|gBS rfl id (bT ftL d.fetched)<|gN rfl<|gS rfl id<|gS rfl id<|gS rfl id<|gS rfl id<|gS rfl id<|gBS rfl hsT rfl<|cU rfl rfl rfl (by simp)<|rE 36<|qXC 0 rfl<|aS rfl (λh3=>?_) (λh3=>?_)
    ·have hst:(d.stop=true∨(d.fetched.length:Int)>=d.conf.queue):=by have z:=h3;simpa [c2o]using z
     refine qCF 0 rfl<|qXF 0 rfl ?_;have e0:dS c=eC W c:=by show(if c.halt≠0 then c else eC c.conf.width.toNat c)=_;rw[if_neg (λq=>q h1p),hW];rfl
     have e:dS c=d:=by rw[e0, <-hG];exact pP hst
     rw[e];exact Iy (.refl _) none ⟨rfl,rfl⟩ (ghX rfl (rA (.refl _) (.clip _ _) (.refl _) (.refl _)) trivial)
    ·have hst: ¬(d.stop=true∨(d.fetched.length:Int)>=d.conf.queue):=by have z:=h3;simpa [c2o]using z
     have hfl:d.fetched.length<=3:=by have:=nN hd.cf;omega
     refine qCC 0 rfl<|cRg<|oR 10 rfl<|rCi rfl (MR d.prog d.fetch false hd.ok.progo (by have:=hd.prog;omega) hd.ok.fetch)<|oR 5 rfl<|rE 52<|qXC 0 rfl<|aS rfl (λh4=>?_) (λh4=>?_)
     ·refine qCC 0 rfl<|cRg<|oR 16 rfl ?_;have b1:(d.fetch+4)%4294967296<=4294967295:=aY (bE _ (by decide));refine rV (vU ((d.fetch+4)%4294967296)) rfl<|rV (.agg [vU d.fetch,vU ((d.fetch+4)%4294967296)]) rfl<|rV (.sl 2 ([[vU d.fetch,vU ((d.fetch+4)%4294967296)]]) true) rfl<|rFx (x:=.osl 73 0 (d.fetched.length+1) false) (h':=upd _ 73 (some (.arr ((d.fetched++([(⟨d.fetch,(d.fetch+4)%4294967296⟩:Ft)])).map ftL) 2))) rfl rfl (At ftL d.fetched ([(⟨d.fetch,(d.fetch+4)%4294967296⟩:Ft)]) omT) (⟨by exact omT,by exact omT,trivial,trivial⟩)<|oR 3 rfl<|rSx 0 (mcX d (.sl 17 xR kR) (.osl 73 0 (d.fetched.length+1) false) (.sl 2 xS kS) (.sl 9 xT kT)) rfl rfl rfl<|rE 78<|qXN 0 rfl<|rSx 0 (mcX ({d with stop:=true}:Co) (.sl 17 xR kR) (.osl 73 0 (d.fetched.length+1) false) (.sl 2 xS kS) (.sl 9 xT kT)) rfl rfl rfl<|qRF 0 rfl<|qXF 0 rfl ?_;have e0:dS c=eC W c:=by show(if c.halt≠0 then c else eC c.conf.width.toNat c)=_;rw[if_neg (λq=>q h1p),hW];rfl
      have e:dS c={d with fetched:=d.fetched++[⟨d.fetch,up4 d.fetch⟩],stop:=true}:=by rw[e0, <-hG];exact rQ omT hst (Fx h4)
      rw[e];exact Iy (.refl _) (some (73,2,(d.fetched++([(⟨d.fetch,(d.fetch+4)%4294967296⟩:Ft)])).map ftL)) ⟨rfl,rfl⟩ (ghX rfl (rA (.refl _) (mY (by exact omT)) (.refl _) (.refl _)) trivial)
     ·refine qC 0 rfl<|rCi rfl (tT d.fetch hd.ok.fetch)<|qR 0 rfl<|rCi rfl (Ar d.words (lineOf d.fetch) hd.ok.words (dT hd.ok.fetch))<|qRC 0 rfl<|aS rfl (λh5=>?_) (λh5=>?_)
      ·refine qC 0 rfl<|rV (.sl 1 ([[vI 2]]) true) rfl<|rCl (x:=vB (DN d.bus (lineOf d.fetch) 2)) rfl (.inl rfl) ((show cA C0 _ [_,_,.sl 1 ([(2:Int)].map iK) true] _ from by rw[<-Js];exact QU d.bus (lineOf d.fetch) [2] false true (by have:=hd.bus;omega) (λx hx=>(hd.ok.buso x hx).line) (dT hd.ok.fetch) (by decide)))<|qR 0 rfl<|jU (x:=vB (qZ d false)) (g:= !(DN d.bus (lineOf d.fetch) 2)) rfl rfl rfl rfl (λh=>h) rfl rfl rfl (.inr ⟨rfl,⟨trivial,trivial,trivial⟩⟩) rfl (λhg=>SJ d nb hd (.sl 17 xR kR) (.sl 2 (d.fetched.map ftL) true) (.sl 2 xS kS) (.sl 9 xT kT) false)<|cU rfl rfl rfl (λh=>h)<|qRC 0 rfl<|aS rfl (λh6=>?_) (λh6=>?_)
       ·have hra:(DN d.bus (lineOf d.fetch) 2=false∧qZ d false=true):=by have z:=h6;simpa [c2a]using z
        refine qC 0 rfl<|fV _ rfl rfl rfl ((XO d nb hd 2 (lineOf d.fetch) oX (dT hd.ok.fetch) kR xR true (d.fetched.map ftL) kS xS kT xT).frameB (λz=>z) _ _ rfl ⟨⟨rfl,rfl,rfl,rfl⟩,trivial⟩ rfl rfl rfl rfl) ?_;rintro _ _ ⟨rfl,rfl⟩;refine qRF 0 rfl<|qXF 0 rfl ?_;have e0:dS c=eC W c:=by show(if c.halt≠0 then c else eC c.conf.width.toNat c)=_;rw[if_neg (λq=>q h1p),hW];rfl
        have e:dS c=iU d 2 (lineOf d.fetch) oX:=by rw[e0, <-hG];exact(nM omT hst (sL h4) (Fx h5)).trans (if_pos hra)
        rw[e];exact Iy (.refl _) none ⟨rfl,rfl⟩ (ghX rfl (rA (.refl _) (.clip _ _) (.refl _) (.refl _)) trivial)
       ·have hra: ¬(DN d.bus (lineOf d.fetch) 2=false∧qZ d false=true):=by have z:=h6;simpa [c2a]using z
        refine qCF 0 rfl<|qXF 0 rfl ?_;have e0:dS c=eC W c:=by show(if c.halt≠0 then c else eC c.conf.width.toNat c)=_;rw[if_neg (λq=>q h1p),hW];rfl
        have e:dS c=d:=by rw[e0, <-hG];exact(nM omT hst (sL h4) (Fx h5)).trans (if_neg hra)
        rw[e];exact Iy (.refl _) none ⟨rfl,rfl⟩ (ghX rfl (rA (.refl _) (.clip _ _) (.refl _) (.refl _)) trivial)
      ·refine qC 0 rfl<|rCi rfl (HJ d.words (lineOf d.fetch) hd.ok.words (dT hd.ok.fetch))<|qRN 0 rfl<|rSx 0 (mcX ({d with words:=(oK d.words (lineOf d.fetch))}:Co) (.sl 17 xR kR) (.sl 2 (d.fetched.map ftL) true) (.sl 2 xS kS) (.sl 9 xT kT)) rfl rfl rfl<|qR 0 rfl<|fV _ rfl rfl rfl ((Vx (gK d) nb (AJ hd) (fetchW d.prog d.fetch) (HE hd.ok.progo d.fetch) kR xR true (d.fetched.map ftL) kS xS kT xT).frameB (λz=>z) _ _ rfl ⟨⟨rfl,rfl,rfl,rfl⟩,trivial⟩ rfl rfl rfl rfl) ?_;rintro _ _ ⟨rfl,rfl⟩;refine qRC 0 rfl<|cRg<|oR 12 rfl<|rV (.agg [vU ((cN (gK d) (fetchW d.prog d.fetch)).1.fetch),vU ((cN (gK d) (fetchW d.prog d.fetch)).2)]) rfl<|rV (.sl 2 ([[vU ((cN (gK d) (fetchW d.prog d.fetch)).1.fetch),vU ((cN (gK d) (fetchW d.prog d.fetch)).2)]]) true) rfl<|rFx (x:=.osl 107 0 (d.fetched.length+1) false) (h':=upd _ 107 (some (.arr ((d.fetched++([(⟨(cN (gK d) (fetchW d.prog d.fetch)).1.fetch,(cN (gK d) (fetchW d.prog d.fetch)).2⟩:Ft)])).map ftL) 2))) rfl rfl (At ftL d.fetched ([(⟨(cN (gK d) (fetchW d.prog d.fetch)).1.fetch,(cN (gK d) (fetchW d.prog d.fetch)).2⟩:Ft)]) omT) (⟨by exact omT,by exact omT,trivial,trivial⟩)<|oR 3 rfl<|rSx 0 (mcX ((cN (gK d) (fetchW d.prog d.fetch)).1) (.sl 17 xR kR) (.osl 107 0 (d.fetched.length+1) false) (.sl 2 xS kS) (.sl 9 xT kT)) rfl rfl rfl<|rE 112<|qXN 0 rfl<|rSx 0 (mcX ({ (cN (gK d) (fetchW d.prog d.fetch)).1 with fetch:=(cN (gK d) (fetchW d.prog d.fetch)).2}:Co) (.sl 17 xR kR) (.osl 107 0 (d.fetched.length+1) false) (.sl 2 xS kS) (.sl 9 xT kT)) rfl rfl rfl ?_;have b2:k+1<=3:=aF hkB (aC 1);refine qR 0 rfl<|rW (vN (k+1)) rfl (okI (bJ b2 rfl))<|qRF 0 rfl<| .mk _ (.refl _) ⟨(k+1,xZ d,true),λi=>match i with|14=>107|i=>i,Weak.of_lists _ wT ⟨⟨rfl,(congrArg (λz:Nat=>some (Blk.box (mcX (xZ d) (.sl 17 xR kR) (.osl 107 0 z false) (.sl 2 xS kS) (.sl 9 xT kT)))) (show d.fetched.length+1=(xZ d).fetched.length from by rw[uB];simp)),rfl⟩,⟨rfl,(congrArg (λz:List Ft=>some (Blk.arr (z.map ftL) 2)) (uB d).symm),rfl⟩,trivial⟩ rfl,rfl,⟨by omega,CG hd omT,(tO omT hst (sL h4) (sL h5)).trans hG⟩,by show W-(k+1)<W-k;omega⟩
   ·have h2p:=aD h2;refine qCF 0 rfl ?_;have e0:dS c=eC W c:=by show(if c.halt≠0 then c else eC c.conf.width.toNat c)=_;rw[if_neg (λq=>q h1p),hW];rfl
    have e:dS c=d:=by rw[e0, <-hG];rw[show W-k=0 by omega];rfl
    rw[e];exact qXF 0 rfl<|RD (rs:=[]) rfl (.step none (Ghost.of_lists (l:=[(0,.tup [])]) (hp:=[(0,.box (mcX (d) (.sl 17 xR kR) (.sl 2 (d.fetched.map ftL) false) (.sl 2 xS kS) (.sl 9 xT kT)))]) trivial ⟨.refl _,trivial⟩ ⟨⟨trivial,_,rfl,LeB.boxL (rA (.refl _) (.clip _ _) (.refl _) (.refl _))⟩,trivial⟩) (.refl _)) (r:=.tup []) (σ:=λz=>z) ⟨rfl,rfl⟩ rfl (rB (λz=>z) rfl rfl wH rfl)
  ·have hkn:k<=W:=hk.1;have hkB:k<=2:=by omega
   have hd:d.okM nb:=hk.2.1;have hG:eC (W-k) d=eC W c:=hk.2.2;refine qS 0 rfl<|rV (vB (decide ((k:Int)<c.conf.width))) rfl<|qRC 0 rfl<|aS rfl (λh7=>?_) (λh7=>?_)
   ·have h7p:=of_decide_eq_true h7;refine qCC 0 rfl<|cRg<|oR 6 rfl<|gN rfl<|gS rfl id<|gS rfl id<|gS rfl id<|gS rfl id<|gBS rfl id rfl<|gN rfl<|gS rfl id<|gS rfl id<|gS rfl id<|gS rfl id<|gS rfl id<|gBS rfl hsT rfl<|cU rfl rfl rfl (by simp)<|rE 36<|qXC 0 rfl<|aS rfl (λh8=>?_) (λh8=>?_)
    ·have hst:(d.stop=true∨(d.fetched.length:Int)>=d.conf.queue):=by have z:=h8;simpa [c2o]using z
     refine qCF 0 rfl<|qXF 0 rfl ?_;have e0:dS c=eC W c:=by show(if c.halt≠0 then c else eC c.conf.width.toNat c)=_;rw[if_neg (λq=>q h1p),hW];rfl
     have e:dS c=d:=by rw[e0, <-hG];exact pP hst
     rw[e];exact Iy (.refl _) (some (14,2,d.fetched.map ftL)) ⟨rfl,rfl⟩ (ghX rfl (rA (.refl _) (mY (by exact omT)) (.refl _) (.refl _)) trivial)
    ·have hst: ¬(d.stop=true∨(d.fetched.length:Int)>=d.conf.queue):=by have z:=h8;simpa [c2o]using z
     have hfl:d.fetched.length<=3:=by have:=nN hd.cf;omega
     refine qCC 0 rfl<|cRg<|oR 10 rfl<|rCi rfl (MR d.prog d.fetch false hd.ok.progo (by have:=hd.prog;omega) hd.ok.fetch)<|oR 5 rfl<|rE 52<|qXC 0 rfl<|aS rfl (λh9=>?_) (λh9=>?_)
     ·refine qCC 0 rfl<|cRg<|oR 16 rfl ?_;have b3:(d.fetch+4)%4294967296<=4294967295:=aY (bE _ (by decide));refine rV (vU ((d.fetch+4)%4294967296)) rfl<|rV (.agg [vU d.fetch,vU ((d.fetch+4)%4294967296)]) rfl<|rV (.sl 2 ([[vU d.fetch,vU ((d.fetch+4)%4294967296)]]) true) rfl<|rFx (x:=.osl 73 0 (d.fetched.length+1) false) (h':=upd (upd _ 14 none) 73 (some (.arr ((d.fetched++([(⟨d.fetch,(d.fetch+4)%4294967296⟩:Ft)])).map ftL) 2))) rfl rfl (jN ftL d.fetched ([(⟨d.fetch,(d.fetch+4)%4294967296⟩:Ft)]) omT omT) (⟨by exact omT,by exact omT,trivial⟩)<|oR 3 rfl<|rSx 0 (mcX d (.sl 17 xR kR) (.osl 73 0 (d.fetched.length+1) false) (.sl 2 xS kS) (.sl 9 xT kT)) rfl rfl rfl<|rE 78<|qXN 0 rfl<|rSx 0 (mcX ({d with stop:=true}:Co) (.sl 17 xR kR) (.osl 73 0 (d.fetched.length+1) false) (.sl 2 xS kS) (.sl 9 xT kT)) rfl rfl rfl<|qRF 0 rfl<|qXF 0 rfl ?_;have e0:dS c=eC W c:=by show(if c.halt≠0 then c else eC c.conf.width.toNat c)=_;rw[if_neg (λq=>q h1p),hW];rfl
      have e:dS c={d with fetched:=d.fetched++[⟨d.fetch,up4 d.fetch⟩],stop:=true}:=by rw[e0, <-hG];exact rQ omT hst (Fx h9)
      rw[e];exact Iy (.refl _) (some (73,2,(d.fetched++([(⟨d.fetch,(d.fetch+4)%4294967296⟩:Ft)])).map ftL)) ⟨rfl,rfl⟩ (ghX rfl (rA (.refl _) (mY (by exact omT)) (.refl _) (.refl _)) trivial)
     ·refine qC 0 rfl<|rCi rfl (tT d.fetch hd.ok.fetch)<|qR 0 rfl<|rCi rfl (Ar d.words (lineOf d.fetch) hd.ok.words (dT hd.ok.fetch))<|qRC 0 rfl<|aS rfl (λh10=>?_) (λh10=>?_)
      ·refine qC 0 rfl<|rV (.sl 1 ([[vI 2]]) true) rfl<|rCl (x:=vB (DN d.bus (lineOf d.fetch) 2)) rfl (.inl rfl) ((show cA C0 _ [_,_,.sl 1 ([(2:Int)].map iK) true] _ from by rw[<-Js];exact QU d.bus (lineOf d.fetch) [2] false true (by have:=hd.bus;omega) (λx hx=>(hd.ok.buso x hx).line) (dT hd.ok.fetch) (by decide)))<|qR 0 rfl<|jU (x:=vB (qZ d false)) (g:= !(DN d.bus (lineOf d.fetch) 2)) rfl rfl rfl rfl (λh=>h) rfl rfl rfl (.inr ⟨rfl,⟨trivial,trivial,trivial⟩⟩) rfl (λhg=>SJ d nb hd (.sl 17 xR kR) .any (.sl 2 xS kS) (.sl 9 xT kT) false)<|cU rfl rfl rfl (λh=>h)<|qRC 0 rfl<|aS rfl (λh11=>?_) (λh11=>?_)
       ·have hra:(DN d.bus (lineOf d.fetch) 2=false∧qZ d false=true):=by have z:=h11;simpa [c2a]using z
        refine qC 0 rfl<|fV _ rfl rfl rfl ((Zz d nb hd 2 (lineOf d.fetch) oX (dT hd.ok.fetch) kR xR 0 d.fetched.length false (d.fetched.map ftL) kS xS kT xT).frameB (λz=>match z with|1=>14|z=>z) _ _ rfl ⟨⟨rfl,rfl,rfl,rfl⟩,⟨rfl,rfl,rfl,rfl⟩,trivial⟩ rfl rfl rfl rfl) ?_;rintro _ _ ⟨rfl,rfl⟩;refine qRF 0 rfl<|qXF 0 rfl ?_;have e0:dS c=eC W c:=by show(if c.halt≠0 then c else eC c.conf.width.toNat c)=_;rw[if_neg (λq=>q h1p),hW];rfl
        have e:dS c=iU d 2 (lineOf d.fetch) oX:=by rw[e0, <-hG];exact(nM omT hst (sL h9) (Fx h10)).trans (if_pos hra)
        rw[e];exact Iy (.refl _) (some (14,2,d.fetched.map ftL)) ⟨rfl,rfl⟩ (ghX rfl (rA (.refl _) (mY (by exact omT)) (.refl _) (.refl _)) trivial)
       ·have hra: ¬(DN d.bus (lineOf d.fetch) 2=false∧qZ d false=true):=by have z:=h11;simpa [c2a]using z
        refine qCF 0 rfl<|qXF 0 rfl ?_;have e0:dS c=eC W c:=by show(if c.halt≠0 then c else eC c.conf.width.toNat c)=_;rw[if_neg (λq=>q h1p),hW];rfl
        have e:dS c=d:=by rw[e0, <-hG];exact(nM omT hst (sL h9) (Fx h10)).trans (if_neg hra)
        rw[e];exact Iy (.refl _) (some (14,2,d.fetched.map ftL)) ⟨rfl,rfl⟩ (ghX rfl (rA (.refl _) (mY (by exact omT)) (.refl _) (.refl _)) trivial)
      ·refine qC 0 rfl<|rCi rfl (HJ d.words (lineOf d.fetch) hd.ok.words (dT hd.ok.fetch))<|qRN 0 rfl<|rSx 0 (mcX ({d with words:=(oK d.words (lineOf d.fetch))}:Co) (.sl 17 xR kR) (.osl 14 0 d.fetched.length false) (.sl 2 xS kS) (.sl 9 xT kT)) rfl rfl rfl<|qR 0 rfl<|fV _ rfl rfl rfl ((SF (gK d) nb (AJ hd) (fetchW d.prog d.fetch) (HE hd.ok.progo d.fetch) kR xR 0 d.fetched.length false (d.fetched.map ftL) kS xS kT xT).frameB (λz=>match z with|1=>14|z=>z) _ _ rfl ⟨⟨rfl,rfl,rfl,rfl⟩,⟨rfl,rfl,rfl,rfl⟩,trivial⟩ rfl rfl rfl rfl) ?_;rintro _ _ ⟨rfl,rfl⟩;refine qRC 0 rfl<|cRg<|oR 12 rfl<|rV (.agg [vU ((cN (gK d) (fetchW d.prog d.fetch)).1.fetch),vU ((cN (gK d) (fetchW d.prog d.fetch)).2)]) rfl<|rV (.sl 2 ([[vU ((cN (gK d) (fetchW d.prog d.fetch)).1.fetch),vU ((cN (gK d) (fetchW d.prog d.fetch)).2)]]) true) rfl<|rFx (x:=.osl 107 0 (d.fetched.length+1) false) (h':=upd (upd _ 14 none) 107 (some (.arr ((d.fetched++([(⟨(cN (gK d) (fetchW d.prog d.fetch)).1.fetch,(cN (gK d) (fetchW d.prog d.fetch)).2⟩:Ft)])).map ftL) 2))) rfl rfl (jN ftL d.fetched ([(⟨(cN (gK d) (fetchW d.prog d.fetch)).1.fetch,(cN (gK d) (fetchW d.prog d.fetch)).2⟩:Ft)]) omT omT) (⟨by exact omT,by exact omT,trivial⟩)<|oR 3 rfl<|rSx 0 (mcX ((cN (gK d) (fetchW d.prog d.fetch)).1) (.sl 17 xR kR) (.osl 107 0 (d.fetched.length+1) false) (.sl 2 xS kS) (.sl 9 xT kT)) rfl rfl rfl<|rE 112<|qXN 0 rfl<|rSx 0 (mcX ({ (cN (gK d) (fetchW d.prog d.fetch)).1 with fetch:=(cN (gK d) (fetchW d.prog d.fetch)).2}:Co) (.sl 17 xR kR) (.osl 107 0 (d.fetched.length+1) false) (.sl 2 xS kS) (.sl 9 xT kT)) rfl rfl rfl ?_;have b4:k+1<=3:=aF hkB (aC 1);refine qR 0 rfl<|rW (vN (k+1)) rfl (okI (bJ b4 rfl))<|qRF 0 rfl<| .mk _ (.refl _) ⟨(k+1,xZ d,true),λi=>match i with|14=>107|i=>i,Weak.of_lists _ wT ⟨⟨rfl,(congrArg (λz:Nat=>some (Blk.box (mcX (xZ d) (.sl 17 xR kR) (.osl 107 0 z false) (.sl 2 xS kS) (.sl 9 xT kT)))) (show d.fetched.length+1=(xZ d).fetched.length from by rw[uB];simp)),rfl⟩,⟨rfl,(congrArg (λz:List Ft=>some (Blk.arr (z.map ftL) 2)) (uB d).symm),rfl⟩,trivial⟩ rfl,rfl,⟨by omega,CG hd omT,(tO omT hst (sL h9) (sL h10)).trans hG⟩,by show W-(k+1)<W-k;omega⟩
   ·have h7p:=aD h7;refine qCF 0 rfl ?_;have e0:dS c=eC W c:=by show(if c.halt≠0 then c else eC c.conf.width.toNat c)=_;rw[if_neg (λq=>q h1p),hW];rfl
    have e:dS c=d:=by rw[e0, <-hG];rw[show W-k=0 by omega];rfl
    rw[e];exact qXF 0 rfl<|RD (rs:=[]) rfl (.step (some (14,2,d.fetched.map ftL)) (Ghost.of_lists (l:=[(0,.tup [])]) (hp:=[(0,.box (mcX (d) (.sl 17 xR kR) (.sl 2 (d.fetched.map ftL) false) (.sl 2 xS kS) (.sl 9 xT kT)))]) rfl ⟨.refl _,trivial⟩ ⟨⟨rfl,_,rfl,LeB.boxL (rA (.refl _) (mY (by exact omT)) (.refl _) (.refl _))⟩,trivial⟩) (.refl _)) (r:=.tup []) (σ:=λz=>z) ⟨rfl,rfl⟩ rfl (rB (λz=>z) rfl rfl wH rfl)
def Pu{no:Int}{f:Ft}{prog:List Nat}(hf:f.ok):(oG no f prog).ok:=by
 have hi:(kJ (fetchW prog f.pc)).imm<=4294967295:=aY (Im _);unfold oG
 repeat' split
 all_goals first|exact⟨hf.pc,aE _,hf.guess,aE _,aE _,aE _⟩|exact⟨hf.pc,hi,hf.guess,aE _,zP _,aE _⟩|exact⟨hf.pc,hi,hf.guess,aE _,aE _,aE _⟩|exact⟨hf.pc,hi,hf.guess,aE _,hf.pc,aE _⟩
def Gk(d:Co)(f:Ft):Co:={d with rob:=d.rob++[oG d.next f d.prog],next:=wrap64 (d.next+1),fetched:=d.fetched.drop 1}
def rP{d:Co}{n:Nat}(h:(d.rob.length:Int)>=d.conf.rob∨d.fetched.length=0):jP n d=d:=by
 cases n with
 |zero=>rfl
 | succ n=>
  unfold jP;by_cases h1:(d.rob.length:Int)>=d.conf.rob
  ·exact if_pos h1
  ·rw[if_neg h1];have hz:d.fetched=[]:=aR (h.resolve_left h1);rw[hz]
def vF{d:Co}{n k:Nat}{f:Ft}(hn:k<n)(h: ¬(d.rob.length:Int)>=d.conf.rob)(hf:d.fetched[0]?=some f):jP (n-(k+1)) (Gk d f)=jP (n-k) d:=by
 rw[show n-k=(n-(k+1))+1 by omega]
 conv=>rhs;unfold jP
 rw[if_neg h];unfold Gk
 cases hz:d.fetched with
 |nil=>rw[hz]at hf;cases hf
 |cons y l=>rw[hz]at hf;injection hf with hf;subst hf;rfl
def CF{c:Co}{n:Nat}{f:Ft}(h:c.okM n)(hf:f.ok)(hr:c.rob.length<=999):(Gk c f).okM n:=by
 have hl:(c.rob++[oG c.next f c.prog]).length<=1000:=by simp;omega
 have hd:(c.fetched.drop 1).length<=1000:=by have:=h.fet;rw[aU];omega
 exact⟨⟨h.ok.conf,h.ok.prog,h.ok.progo,h.ok.r,h.ok.fetch,aN hd (by decide),HY h.ok.feto,aN hl (by decide),sM h.ok.robo (sN (P:=Ent.ok) (Pu hf)),h.ok.sto,h.ok.stoo,h.ok.data,h.ok.words,h.ok.bus,h.ok.buso,h.ok.asked,h.ok.guessed,h.ok.mem,h.ok.guess,h.ok.ret,h.ok.reto⟩,h.nb,h.cf,h.data,h.words,h.guess,hl,hd,h.sto,h.prog,h.mem,h.std⟩
def Uo(rob:List Ent)(ck:Bool)(no:Int)(f:Ft)(prog:List Nat)(hl:rob.length<=1000)(ho:∀x∈rob,x.ok)(hf:f.ok)(hp:∀x∈prog,x<=4294967295)(hpl:prog.length<=1000000):cA C0 72 [.sl 17 (rob.map enL) ck,vI no,.agg (ftL f),.sl 1 (prog.map eE) false] (.sl 17 ((rob++[oG no f prog]).map enL) false):=by
 refine dc1 (cA.intro c1Ok Tryz.func72 rfl rfl (by kernel_rfl) rfl ?_);refine qS 0 rfl<|rV (.agg [vI no,vU f.pc,vI 0,vI 0,vI 0,vI 0,zU,vU f.guess,vI 0,vI 0,zU,zU,zU,vI 0,vI 0,vB false,vB false]) rfl<|qR 0 rfl<|rCi rfl (MR prog f.pc false hp hpl hf.pc)<|qR 0 rfl<|rCi rfl (Io (fetchW prog f.pc) (Cd (HE hp f.pc)))<|qRC 0 rfl<|aS rfl (λh1=>?_) (λh1=>?_)
 ·refine qC 0 rfl<|rV (vB (1 != 0)) rfl<|qRC 0 rfl<|aS rfl (λ_=>?_) (λh2=>by exact absurd h2 (by decide));refine qCC 0 rfl<|cRg<|oR 2 rfl<|rW (vN rob.length) rfl (bT enL rob)<|oR 1 rfl<|rW (vN rob.length) rfl (bT enL rob)<|nW (.sl 17 ((rob.take rob.length).map enL) true) rfl (zB (wX enL rob rob.length)) (by refine⟨?_,?_,?_,?_⟩;all_goals (first|exact aH _|decide|(apply Fj.2;exact omT)|(show(_:Int)=(_:Int);congr 1;omega)|rfl))<|oR 1 rfl<|rV (.sl 17 ([[vI no,vU f.pc,vI 0,vI 0,vI 0,vI 0,zU,vU f.guess,vI 3,vI 0,zU,zU,zU,vI 1,vI 0,vB false,vB false]]) true) rfl<|rFx (x:=.osl 45 0 (rob.length+1) false) (h':=upd _ 45 (some (.arr (((rob.take rob.length)++([(⟨no,f.pc,⟨0,0,0,0,0⟩,f.guess,3,0,0,0,0,1,0,false,false⟩:Ent)])).map enL) 17))) rfl rfl (At enL (rob.take rob.length) ([(⟨no,f.pc,⟨0,0,0,0,0⟩,f.guess,3,0,0,0,0,1,0,false,false⟩:Ent)]) omT) (⟨by exact omT,by exact omT,trivial,trivial⟩)<|oR 1 rfl<|rE 47<|qXF 0 rfl ?_;have e:(⟨no,f.pc,⟨0,0,0,0,0⟩,f.guess,3,0,0,0,0,1,0,false,false⟩:Ent)=oG no f prog:=by unfold oG;rw[if_pos (Fx h1)];rfl
  refine dF rfl (by show 0+(rob.length+1)<=(((rob.take rob.length)++([(⟨no,f.pc,⟨0,0,0,0,0⟩,f.guess,3,0,0,0,0,1,0,false,false⟩:Ent)])).map enL).length;exact omT) rfl ?_;show AV.sl 17 (List.take (rob.length+1) (List.drop 0 (((rob.take rob.length)++([(⟨no,f.pc,⟨0,0,0,0,0⟩,f.guess,3,0,0,0,0,1,0,false,false⟩:Ent)])).map enL))) false=_;rw[kG enL ((rob.take rob.length)++([(⟨no,f.pc,⟨0,0,0,0,0⟩,f.guess,3,0,0,0,0,1,0,false,false⟩:Ent)])) omT];rw[e,cM]
 ·refine qC 0 rfl<|rW (vB ((decE (fetchW prog f.pc)) != 0)) rfl (okB (neN _ _))<|qRC 0 rfl<|aS rfl (λh3=>?_) (λh3=>?_)
  ·have h3p:=xH h3;refine qC 0 rfl<|rV (vB (2 != 0)) rfl<|qRC 0 rfl<|aS rfl (λ_=>?_) (λh4=>by exact absurd h4 (by decide));refine qCC 0 rfl<|cRg<|oR 2 rfl<|rW (vN rob.length) rfl (bT enL rob)<|oR 1 rfl<|rW (vN rob.length) rfl (bT enL rob)<|nW (.sl 17 ((rob.take rob.length).map enL) true) rfl (zB (wX enL rob rob.length)) (by refine⟨?_,?_,?_,?_⟩;all_goals (first|exact aH _|decide|(apply Fj.2;exact omT)|(show(_:Int)=(_:Int);congr 1;omega)|rfl))<|oR 1 rfl<|rV (.sl 17 ([[vI no,vU f.pc,vI 0,vI 0,vI 0,vI 0,zU,vU f.guess,vI 3,vI 0,zU,zU,zU,vI 2,vI 0,vB false,vB false]]) true) rfl<|rFx (x:=.osl 48 0 (rob.length+1) false) (h':=upd _ 48 (some (.arr (((rob.take rob.length)++([(⟨no,f.pc,⟨0,0,0,0,0⟩,f.guess,3,0,0,0,0,2,0,false,false⟩:Ent)])).map enL) 17))) rfl rfl (At enL (rob.take rob.length) ([(⟨no,f.pc,⟨0,0,0,0,0⟩,f.guess,3,0,0,0,0,2,0,false,false⟩:Ent)]) omT) (⟨by exact omT,by exact omT,trivial,trivial⟩)<|oR 1 rfl<|rE 50<|qXF 0 rfl ?_;have e:(⟨no,f.pc,⟨0,0,0,0,0⟩,f.guess,3,0,0,0,0,2,0,false,false⟩:Ent)=oG no f prog:=by unfold oG;rw[if_neg (sL h1),if_pos (by have q:=Dh (fetchW prog f.pc);omega)];rfl
   refine dF rfl (by show 0+(rob.length+1)<=(((rob.take rob.length)++([(⟨no,f.pc,⟨0,0,0,0,0⟩,f.guess,3,0,0,0,0,2,0,false,false⟩:Ent)])).map enL).length;exact omT) rfl ?_;show AV.sl 17 (List.take (rob.length+1) (List.drop 0 (((rob.take rob.length)++([(⟨no,f.pc,⟨0,0,0,0,0⟩,f.guess,3,0,0,0,0,2,0,false,false⟩:Ent)])).map enL))) false=_;rw[kG enL ((rob.take rob.length)++([(⟨no,f.pc,⟨0,0,0,0,0⟩,f.guess,3,0,0,0,0,2,0,false,false⟩:Ent)])) omT];rw[e,cM]
  ·have h3p:=xI h3;refine qC 0 rfl<|rV (vB (((kJ (fetchW prog f.pc)).op)==47)) rfl<|qRC 0 rfl<|aS rfl (λh5=>?_) (λh5=>?_)
   ·have h5p:=mW h5;refine qC 0 rfl<|rV (vB (6 != 0)) rfl<|qRC 0 rfl<|aS rfl (λ_=>?_) (λh6=>by exact absurd h6 (by decide));refine qCC 0 rfl<|cRg<|oR 2 rfl<|rW (vN rob.length) rfl (bT enL rob)<|oR 1 rfl<|rW (vN rob.length) rfl (bT enL rob)<|nW (.sl 17 ((rob.take rob.length).map enL) true) rfl (zB (wX enL rob rob.length)) (by refine⟨?_,?_,?_,?_⟩;all_goals (first|exact aH _|decide|(apply Fj.2;exact omT)|(show(_:Int)=(_:Int);congr 1;omega)|rfl))<|oR 1 rfl<|rV (.sl 17 ([[vI no,vU f.pc,vI ((kJ (fetchW prog f.pc)).op),vI ((kJ (fetchW prog f.pc)).rd),vI ((kJ (fetchW prog f.pc)).rs1),vI ((kJ (fetchW prog f.pc)).rs2),vU ((kJ (fetchW prog f.pc)).imm),vU f.guess,vI 3,vI 0,zU,zU,zU,vI 6,vI 0,vB false,vB false]]) true) rfl<|rFx (x:=.osl 55 0 (rob.length+1) false) (h':=upd _ 55 (some (.arr (((rob.take rob.length)++([(⟨no,f.pc,kJ (fetchW prog f.pc),f.guess,3,0,0,0,0,6,0,false,false⟩:Ent)])).map enL) 17))) rfl rfl (At enL (rob.take rob.length) ([(⟨no,f.pc,kJ (fetchW prog f.pc),f.guess,3,0,0,0,0,6,0,false,false⟩:Ent)]) omT) (⟨by exact omT,by exact omT,trivial,trivial⟩)<|oR 1 rfl<|rE 57<|qXF 0 rfl ?_;have e:(⟨no,f.pc,kJ (fetchW prog f.pc),f.guess,3,0,0,0,0,6,0,false,false⟩:Ent)=oG no f prog:=by unfold oG;rw[if_neg (sL h1),if_neg ((Dh _).1 h3p),if_pos h5p];rfl
    refine dF rfl (by show 0+(rob.length+1)<=(((rob.take rob.length)++([(⟨no,f.pc,kJ (fetchW prog f.pc),f.guess,3,0,0,0,0,6,0,false,false⟩:Ent)])).map enL).length;exact omT) rfl ?_;show AV.sl 17 (List.take (rob.length+1) (List.drop 0 (((rob.take rob.length)++([(⟨no,f.pc,kJ (fetchW prog f.pc),f.guess,3,0,0,0,0,6,0,false,false⟩:Ent)])).map enL))) false=_;rw[kG enL ((rob.take rob.length)++([(⟨no,f.pc,kJ (fetchW prog f.pc),f.guess,3,0,0,0,0,6,0,false,false⟩:Ent)])) omT];rw[e,cM]
   ·have h5p:=mX h5;refine qC 0 rfl<|rV (vB (((kJ (fetchW prog f.pc)).op)==48)) rfl<|qRC 0 rfl<|aS rfl (λh7=>?_) (λh7=>?_)
    ·have h7p:=mW h7;refine qC 0 rfl<|rV (vB (7 != 0)) rfl<|qRC 0 rfl<|aS rfl (λ_=>?_) (λh8=>by exact absurd h8 (by decide));refine qCC 0 rfl<|cRg<|oR 2 rfl<|rW (vN rob.length) rfl (bT enL rob)<|oR 1 rfl<|rW (vN rob.length) rfl (bT enL rob)<|nW (.sl 17 ((rob.take rob.length).map enL) true) rfl (zB (wX enL rob rob.length)) (by refine⟨?_,?_,?_,?_⟩;all_goals (first|exact aH _|decide|(apply Fj.2;exact omT)|(show(_:Int)=(_:Int);congr 1;omega)|rfl))<|oR 1 rfl<|rV (.sl 17 ([[vI no,vU f.pc,vI ((kJ (fetchW prog f.pc)).op),vI ((kJ (fetchW prog f.pc)).rd),vI ((kJ (fetchW prog f.pc)).rs1),vI ((kJ (fetchW prog f.pc)).rs2),vU ((kJ (fetchW prog f.pc)).imm),vU f.guess,vI 3,vI 0,zU,zU,zU,vI 7,vI 0,vB false,vB false]]) true) rfl<|rFx (x:=.osl 57 0 (rob.length+1) false) (h':=upd _ 57 (some (.arr (((rob.take rob.length)++([(⟨no,f.pc,kJ (fetchW prog f.pc),f.guess,3,0,0,0,0,7,0,false,false⟩:Ent)])).map enL) 17))) rfl rfl (At enL (rob.take rob.length) ([(⟨no,f.pc,kJ (fetchW prog f.pc),f.guess,3,0,0,0,0,7,0,false,false⟩:Ent)]) omT) (⟨by exact omT,by exact omT,trivial,trivial⟩)<|oR 1 rfl<|rE 59<|qXF 0 rfl ?_;have e:(⟨no,f.pc,kJ (fetchW prog f.pc),f.guess,3,0,0,0,0,7,0,false,false⟩:Ent)=oG no f prog:=by unfold oG;rw[if_neg (sL h1),if_neg ((Dh _).1 h3p),if_neg h5p,if_pos h7p];rfl
     refine dF rfl (by show 0+(rob.length+1)<=(((rob.take rob.length)++([(⟨no,f.pc,kJ (fetchW prog f.pc),f.guess,3,0,0,0,0,7,0,false,false⟩:Ent)])).map enL).length;exact omT) rfl ?_;show AV.sl 17 (List.take (rob.length+1) (List.drop 0 (((rob.take rob.length)++([(⟨no,f.pc,kJ (fetchW prog f.pc),f.guess,3,0,0,0,0,7,0,false,false⟩:Ent)])).map enL))) false=_;rw[kG enL ((rob.take rob.length)++([(⟨no,f.pc,kJ (fetchW prog f.pc),f.guess,3,0,0,0,0,7,0,false,false⟩:Ent)])) omT];rw[e,cM]
    ·have h7p:=mX h7;refine qC 0 rfl<|rV (vB (0 != 0)) rfl<|qRC 0 rfl<|aS rfl (λh9=>by exact absurd h9 (by decide)) (λ_=>?_);refine qCC 0 rfl<|cRg<|oR 2 rfl<|rW (vN rob.length) rfl (bT enL rob)<|oR 1 rfl<|rW (vN rob.length) rfl (bT enL rob)<|nW (.sl 17 ((rob.take rob.length).map enL) true) rfl (zB (wX enL rob rob.length)) (by refine⟨?_,?_,?_,?_⟩;all_goals (first|exact aH _|decide|(apply Fj.2;exact omT)|(show(_:Int)=(_:Int);congr 1;omega)|rfl))<|oR 1 rfl<|rV (.sl 17 ([[vI no,vU f.pc,vI ((kJ (fetchW prog f.pc)).op),vI ((kJ (fetchW prog f.pc)).rd),vI ((kJ (fetchW prog f.pc)).rs1),vI ((kJ (fetchW prog f.pc)).rs2),vU ((kJ (fetchW prog f.pc)).imm),vU f.guess,vI 0,vI 0,zU,zU,zU,vI 0,vI 0,vB false,vB false]]) true) rfl<|rFx (x:=.osl 53 0 (rob.length+1) false) (h':=upd _ 53 (some (.arr (((rob.take rob.length)++([(⟨no,f.pc,kJ (fetchW prog f.pc),f.guess,0,0,0,0,0,0,0,false,false⟩:Ent)])).map enL) 17))) rfl rfl (At enL (rob.take rob.length) ([(⟨no,f.pc,kJ (fetchW prog f.pc),f.guess,0,0,0,0,0,0,0,false,false⟩:Ent)]) omT) (⟨by exact omT,by exact omT,trivial,trivial⟩)<|oR 1 rfl<|rE 55<|qXF 0 rfl ?_;have e:(⟨no,f.pc,kJ (fetchW prog f.pc),f.guess,0,0,0,0,0,0,0,false,false⟩:Ent)=oG no f prog:=by unfold oG;rw[if_neg (sL h1),if_neg ((Dh _).1 h3p),if_neg h5p,if_neg h7p];rfl
     refine dF rfl (by show 0+(rob.length+1)<=(((rob.take rob.length)++([(⟨no,f.pc,kJ (fetchW prog f.pc),f.guess,0,0,0,0,0,0,0,false,false⟩:Ent)])).map enL).length;exact omT) rfl ?_;show AV.sl 17 (List.take (rob.length+1) (List.drop 0 (((rob.take rob.length)++([(⟨no,f.pc,kJ (fetchW prog f.pc),f.guess,0,0,0,0,0,0,0,false,false⟩:Ent)])).map enL))) false=_;rw[kG enL ((rob.take rob.length)++([(⟨no,f.pc,kJ (fetchW prog f.pc),f.guess,0,0,0,0,0,0,0,false,false⟩:Ent)])) omT];rw[e,cM]
def Vw(c:Co)(nb:Nat)(hm:c.okM nb)(kS:Bool)(xS:List (List AV))(kT:Bool)(xT:List (List AV)):qE C0.P C0.G 29 [.ptr 0 0] (heapF [(0,.box (mcX c (.sl 17 (c.rob.map enL) false) (.sl 2 (c.fetched.map ftL) true) (.sl 2 xS kS) (.sl 9 xT kT)))]) 1 (λx h'=>x=.tup []∧h'=heapF [(0,.box (mcX (iP c) (.sl 17 ((iP c).rob.map enL) false) (.sl 2 ((iP c).fetched.map ftL) true) (.sl 2 xS kS) (.sl 9 xT kT)))]):=by
 refine HCall.intro (C:=C1) (s:=1) c1Ok.at Tryz.func29 rfl rfl (by kernel_rfl) rfl rfl ?_;obtain⟨W,hW,hW2⟩:∃W:Nat,c.conf.width=(W:Int)∧W<=2:=⟨c.conf.width.toNat,by have:=nN hm.cf;omega,by have:=nN hm.cf;omega⟩;refine qS 0 rfl<|rV (vB (c.halt != 0)) rfl<|qRC 0 rfl<|aS rfl (λh1=>?_) (λh1=>?_)
 ·have h1p:=xH h1;refine qCF 0 rfl ?_;have e:iP c=c:=if_pos h1p;rw[e];exact pK (rs:=[]) rfl (σ:=λz=>z) ⟨rfl,rfl⟩ rfl (cI (λz=>z) rfl rfl wH rfl)
 ·have h1p:=xI h1;refine qCC 0 rfl<|tC (κ:=Nat×Co×Bool) (λz_=>match z_ with|(k,d,false)=>⟨slotsF [(0,.ptr 0 0),(7,vB (c.halt != 0)),(13,vI c.conf.width),(14,vN k)],heapF [(0,.box (mcX d (.sl 17 (d.rob.map enL) false) (.sl 2 (d.fetched.map ftL) true) (.sl 2 xS kS) (.sl 9 xT kT)))],14⟩|(k,d,true)=>⟨slotsF [(0,.ptr 0 0),(7,vB (c.halt != 0)),(13,vI c.conf.width),(14,vN k)],heapF [(0,.box (mcX d (.sl 17 (d.rob.map enL) false) (.sl 2 (d.fetched.map ftL) true) (.sl 2 xS kS) (.sl 9 xT kT)))],14⟩) (λz_=>match z_ with|(k,d,_)=>k<=W∧d.okM nb∧jP (W-k) d=jP W c) (λz_=>W-z_.1) (0,c,false) (λs=>s) (Weak.of_lists (λs=>s) wT wH rfl) rfl (⟨aE _,hm,rfl⟩) ?_;intro z_ hk;obtain⟨k,d,b_⟩:=z_;cases b_
  ·have hkn:k<=W:=hk.1;have hkB:k<=2:=by omega
   have hd:d.okM nb:=hk.2.1;have hG:jP (W-k) d=jP W c:=hk.2.2;refine qS 0 rfl<|rV (vB (decide ((k:Int)<c.conf.width))) rfl<|qRC 0 rfl<|aS rfl (λh2=>?_) (λh2=>?_)
   ·have h2p:=of_decide_eq_true h2;refine qCC 0 rfl<|cRg<|oR 5 rfl<|rW (vN d.rob.length) rfl (bT enL d.rob)<|oR 6 rfl<|rV (vB (decide (((d.rob.length:Nat):Int)>=d.conf.rob))) rfl<|oR 1 rfl<|gN rfl<|gS rfl id<|gS rfl id<|gS rfl id<|gS rfl id<|gBS rfl id (bT ftL d.fetched)<|gBS rfl id (okB (eqN _ _))<|cU rfl rfl rfl (by simp)<|rE 37<|qXC 0 rfl<|aS rfl (λh3=>?_) (λh3=>?_)
    ·have hst:((d.rob.length:Int)>=d.conf.rob∨d.fetched.length=0):=by have z:=h3;simpa [c2o]using z
     refine qCF 0 rfl<|qXF 0 rfl ?_;have e0:iP c=jP W c:=by show(if c.halt≠0 then c else jP c.conf.width.toNat c)=_;rw[if_neg (λq=>q h1p),hW];rfl
     have e:iP c=d:=by rw[e0, <-hG];exact rP hst
     rw[e];exact pK (rs:=[]) rfl (σ:=λz=>z) ⟨rfl,rfl⟩ rfl (cI (λz=>z) rfl rfl wH rfl)
    ·have hst: ¬((d.rob.length:Int)>=d.conf.rob∨d.fetched.length=0):=by have z:=h3;simpa [c2o]using z
     have hrl:d.rob.length<=7:=by have:=nN hd.cf;omega
     have hfl:0<d.fetched.length:=by omega
     refine qCC 0 rfl<|cRg<|oR 16 rfl ?_;obtain⟨f,hf⟩:∃y_,d.fetched[0]?=some y_:=⟨_,aA omT⟩;have hfo:=hd.ok.feto f (aB hf);refine ID (ftL f) (x:=.dp 2 0 (ftL f)) rfl rfl rfl (⟨by decide,fW hf⟩) rfl<|oR 6 rfl<|rCi rfl (Uo d.rob false d.next f d.prog hd.rob hd.ok.robo hfo hd.ok.progo (by have:=hd.prog;omega))<|oR 3 rfl<|rSt rfl<|rE 65<|qX 0 rfl<|rW (vI (wrap64 (d.next+1))) rfl (okI (w64 _))<|qRN 0 rfl<|rSt rfl<|qR 0 rfl<|nW (.sl 2 ((d.fetched.drop 1).map ftL) true) rfl (zB (Jy ftL d.fetched 1)) slT<|qRN 0 rfl<|rSt rfl ?_;have b1:k+1<=3:=aF hkB (aC 1);refine qR 0 rfl<|rW (vN (k+1)) rfl (okI (bJ b1 rfl))<|qRF 0 rfl<| .mk _ (.refl _) ⟨(k+1,Gk d f,false),λi=>i,Weak.of_lists _ wT wH rfl,rfl,⟨by omega,CF hd hfo omT,(vF omT (λq=>hst (.inl q)) hf).trans hG⟩,by show W-(k+1)<W-k;omega⟩
   ·have h2p:=aD h2;refine qCF 0 rfl ?_;have e0:iP c=jP W c:=by show(if c.halt≠0 then c else jP c.conf.width.toNat c)=_;rw[if_neg (λq=>q h1p),hW];rfl
    have e:iP c=d:=by rw[e0, <-hG];rw[show W-k=0 by omega];rfl
    rw[e];exact qXF 0 rfl<|pK (rs:=[]) rfl (σ:=λz=>z) ⟨rfl,rfl⟩ rfl (cI (λz=>z) rfl rfl wH rfl)
  ·have hkn:k<=W:=hk.1;have hkB:k<=2:=by omega
   have hd:d.okM nb:=hk.2.1;have hG:jP (W-k) d=jP W c:=hk.2.2;refine qS 0 rfl<|rV (vB (decide ((k:Int)<c.conf.width))) rfl<|qRC 0 rfl<|aS rfl (λh4=>?_) (λh4=>?_)
   ·have h4p:=of_decide_eq_true h4;refine qCC 0 rfl<|cRg<|oR 5 rfl<|rW (vN d.rob.length) rfl (bT enL d.rob)<|oR 6 rfl<|rV (vB (decide (((d.rob.length:Nat):Int)>=d.conf.rob))) rfl<|oR 1 rfl<|gN rfl<|gS rfl id<|gS rfl id<|gS rfl id<|gS rfl id<|gBS rfl id (bT ftL d.fetched)<|gBS rfl id (okB (eqN _ _))<|cU rfl rfl rfl (by simp)<|rE 37<|qXC 0 rfl<|aS rfl (λh5=>?_) (λh5=>?_)
    ·have hst:((d.rob.length:Int)>=d.conf.rob∨d.fetched.length=0):=by have z:=h5;simpa [c2o]using z
     refine qCF 0 rfl<|qXF 0 rfl ?_;have e0:iP c=jP W c:=by show(if c.halt≠0 then c else jP c.conf.width.toNat c)=_;rw[if_neg (λq=>q h1p),hW];rfl
     have e:iP c=d:=by rw[e0, <-hG];exact rP hst
     rw[e];exact pK (rs:=[]) rfl (σ:=λz=>z) ⟨rfl,rfl⟩ rfl (cI (λz=>z) rfl rfl wH rfl)
    ·have hst: ¬((d.rob.length:Int)>=d.conf.rob∨d.fetched.length=0):=by have z:=h5;simpa [c2o]using z
     have hrl:d.rob.length<=7:=by have:=nN hd.cf;omega
     have hfl:0<d.fetched.length:=by omega
     refine qCC 0 rfl<|cRg<|oR 16 rfl ?_;obtain⟨f,hf⟩:∃y_,d.fetched[0]?=some y_:=⟨_,aA omT⟩;have hfo:=hd.ok.feto f (aB hf);refine ID (ftL f) (x:=.dp 2 0 (ftL f)) rfl rfl rfl (⟨by decide,fW hf⟩) rfl<|oR 6 rfl<|rCi rfl (Uo d.rob false d.next f d.prog hd.rob hd.ok.robo hfo hd.ok.progo (by have:=hd.prog;omega))<|oR 3 rfl<|rSt rfl<|rE 65<|qX 0 rfl<|rW (vI (wrap64 (d.next+1))) rfl (okI (w64 _))<|qRN 0 rfl<|rSt rfl<|qR 0 rfl<|nW (.sl 2 ((d.fetched.drop 1).map ftL) true) rfl (zB (Jy ftL d.fetched 1)) slT<|qRN 0 rfl<|rSt rfl ?_;have b2:k+1<=3:=aF hkB (aC 1);refine qR 0 rfl<|rW (vN (k+1)) rfl (okI (bJ b2 rfl))<|qRF 0 rfl<| .mk _ (.refl _) ⟨(k+1,Gk d f,false),λi=>i,Weak.of_lists _ wT wH rfl,rfl,⟨by omega,CF hd hfo omT,(vF omT (λq=>hst (.inl q)) hf).trans hG⟩,by show W-(k+1)<W-k;omega⟩
   ·have h4p:=aD h4;refine qCF 0 rfl ?_;have e0:iP c=jP W c:=by show(if c.halt≠0 then c else jP c.conf.width.toNat c)=_;rw[if_neg (λq=>q h1p),hW];rfl
    have e:iP c=d:=by rw[e0, <-hG];rw[show W-k=0 by omega];rfl
    rw[e];exact qXF 0 rfl<|pK (rs:=[]) rfl (σ:=λz=>z) ⟨rfl,rfl⟩ rfl (cI (λz=>z) rfl rfl wH rfl)
def yX(c:Co)(i:Nat)(e:Ent):(setE c i e).rob.length=c.rob.length:=bY ..
def Un{e:Ent}(h:e.ok):({e with is:=2}:Ent).ok:=⟨h.pc,h.imm,h.guess,h.value,h.next,h.addr⟩
def Vv{c:Co}{n i:Nat}{e:Ent}(h:c.okM n)(he:c.rob[i]?=some e):e.ok:=h.ok.robo e (aB he)
def NC{c:Co}{n:Nat}(h:c.okM n)(hb:n+1<=890000)(i:Nat):(kL c i).okM (n+1)∧(kL c i).rob.length=c.rob.length∧(kL c i).halt=c.halt∧(kL c i).stores=c.stores∧(kL c i).fetched=c.fetched∧(kL c i).retired=c.retired:=by
 have h1:c.okM (n+1):=h.mono (fI _) hb;unfold kL
 cases hx:c.rob[i]? with
 |none=>exact⟨h1,rfl,rfl,rfl,rfl,rfl⟩
 |some e=>
  have he:=Vv h hx;dsimp only
  repeat' split
  ·exact⟨h1,rfl,rfl,rfl,rfl,rfl⟩
  ·exact⟨wW h1 i (Hy he _),yX ..,rfl,rfl,rfl,rfl⟩
  ·exact⟨h1,rfl,rfl,rfl,rfl,rfl⟩
  ·exact⟨wW h1 i (Hy he _),yX ..,rfl,rfl,rfl,rfl⟩
  ·exact⟨wW h1 i (Un he),yX ..,rfl,rfl,rfl,rfl⟩
  ·exact⟨wW (sK h hb 1 (dT he.addr) oX) i (Un he),yX ..,rfl,rfl,rfl,rfl⟩
  ·exact⟨h1,rfl,rfl,rfl,rfl,rfl⟩
def vW{c:Co}{n:Nat}(h:c.okM n)(hb:n+1<=890000)(i:Nat):(fD c i).okM (n+1)∧(fD c i).rob.length=c.rob.length∧(fD c i).halt=c.halt∧(fD c i).stores=c.stores∧(fD c i).fetched=c.fetched∧(fD c i).retired=c.retired:=by
 have h1:c.okM (n+1):=h.mono (fI _) hb;unfold fD
 cases hx:c.rob[i]? with
 |none=>exact⟨h1,rfl,rfl,rfl,rfl,rfl⟩
 | some e=>
  have he:=Vv h hx;have hB:=AK h.ok.robo h.ok.r i;dsimp only;split
  ·exact⟨wW h1 i (Hx he _ _),yX ..,rfl,rfl,rfl,rfl⟩
  ·split
   ·have hl:=NC (wW h i (Hx he c.mem.size (lK c.rob c.r i).1)) hb i;exact⟨hl.1,hl.2.1.trans (yX ..),hl.2.2.1,hl.2.2.2.1,hl.2.2.2.2.1,hl.2.2.2.2.2⟩
   ·exact⟨wW h1 i (PC he hB.1 hB.2),yX ..,rfl,rfl,rfl,rfl⟩
theorem Pq{width:Int}{busy:Bool}{kinds:List Int}{can:List Bool}:∀k,∀i∈(iB width busy kinds can k).out,i<k
 |0,i,h=>by simp[iB]at h
 | k+1,i,h=>by
  have ih:=Pq (width:=width) (busy:=busy) (kinds:=kinds) (can:=can) k;unfold iB DB at h
  repeat' split at h
  all_goals first
   |exact mS (ih i h)
   |(simp only[al_List_mem_append,uO]at h;exact h.elim (λh=>mS (ih i h)) (λh=>by omega))
theorem Pr{width:Int}{busy:Bool}{kinds:List Int}{can:List Bool}(hw:0<=width):∀k,((iB width busy kinds can k).out.length:Int)<=width
 |0=>by simpa [iB]using hw
 | k+1=>by
  have ih:=Pr (width:=width) (busy:=busy) (kinds:=kinds) (can:=can) hw k;unfold iB DB
  repeat' split
  all_goals first
   |exact ih
   |(simp only[aQ,kB];push_cast;omega)
def Mi{α:Type}{f:α->Bool}{l:List α}{k:Nat}{x:α}(h:l[k]?=some x):(l.take (k+1)).any f=((l.take k).any f||f x):=by
 rw[bV,h,List.any_append];simp
def rO(c:Co)(k:Nat):List Int:=(c.rob.take k).map (λe=>(kindOf e.i.op:Int))++List.replicate (c.rob.length-k) 0
def xG(c:Co)(k:Nat):List Bool:=(List.range k).map (Ci c)++List.replicate (c.rob.length-k) false
def Gh{c:Co}{k:Nat}(h:k<=c.rob.length):(rO c k).length=c.rob.length:=by unfold rO;simp;omega
def Eu{c:Co}{k:Nat}(h:k<=c.rob.length):(xG c k).length=c.rob.length:=by unfold xG;simp;omega
def Mj{α:Type}{a:List α}{z x:α}{n k:Nat}(ha:a.length=k)(hn:0<n):(a++List.replicate n z).set k x=(a++[x])++List.replicate (n-1) z:=by
 subst ha;obtain⟨m,rfl⟩:∃m,n=m+1:=⟨n-1,by omega⟩;rw[iO _ _ (aC _),fG,List.replicate_succ,gI];simp
def Gi{c:Co}{k:Nat}{x:Ent}(hx:c.rob[k]?=some x):(rO c k).set k (kindOf x.i.op:Int)=rO c (k+1):=by
 have hk:=(DS.1 hx).1;unfold rO;rw[Mj (by simp;omega) omT,bV,hx,Nat.sub_sub];simp
def Jp{c:Co}{k:Nat}(hk:k<c.rob.length):(xG c k).set k (Ci c k)=xG c (k+1):=by
 unfold xG;rw[Mj (by simp) omT,kA,Nat.sub_sub];simp
def ND(c:Co):rO c c.rob.length=Aw c:=by unfold rO Aw;simp
def Ps(c:Co):xG c c.rob.length=zN c:=by unfold xG zN;simp
def KT{c:Co}{n:Nat}(h:c.rob.length=n):List.replicate n (0:Int)=rO c 0:=by subst h;rfl
def NE{c:Co}{n:Nat}(h:c.rob.length=n):List.replicate n false=xG c 0:=by subst h;rfl
def Gj{α β:Type}{f:β->α->β}{l:List α}{j:Nat}{x:α}{d:β}(h:l[j]?=some x):(l.drop (j+1)).foldl f (f d x)=(l.drop j).foldl f d:=by
 obtain⟨hj,rfl⟩:=DS.1 h;rw[bR hj];rfl
def Ap{c:Co}{k:Nat}(hm:wA c.conf=true)(hh: ¬c.halt≠0)(hk:k=c.rob.length):∃p,pickOf c.conf.width ((c.rob.take k).any Dy) (rO c k) (xG c k)=p∧eW c=p.foldl fD c∧(∀i∈p,i<c.rob.length)∧p.length<=2:=by
 subst hk;have hw:=nN hm;refine⟨_,rfl,?_,λi hi=>?_,?_⟩
 ·rw[ND,Ps,cM];exact if_neg hh
 ·have:=Pq _ i hi
  rwa [Eu (aC _)]at this
 ·have:=Pr (width:=c.conf.width) (busy:=(c.rob.take c.rob.length).any Dy) (kinds:=rO c c.rob.length) (can:=xG c c.rob.length) omT (xG c c.rob.length).length;unfold pickOf;omega
def Vu(c:Co)(nb:Nat)(hm:c.okM nb)(hb:nb+3<=890000)(A B:List Ent)(lo n:Nat)(kR kF kS kT:Bool)(xF xT:List (List AV))(hlo:A.length=lo)(hn:c.rob.length=n)(hA:A.length+n+B.length<=1000):qE C0.P C0.G 28 [.ptr 0 0] (heapF [(0,.box (mcX c (.osl 1 lo n kR) (.sl 2 xF kF) (.sl 2 (c.stores.map ptL) kS) (.sl 9 xT kT))),(1,.arr ((A++c.rob++B).map enL) 17)]) 2 (λx h'=>x=.tup []∧h'=heapF [(0,.box (mcX (eW c) (.osl 1 lo n kR) (.sl 2 xF kF) (.sl 2 ((eW c).stores.map ptL) kS) (.sl 9 xT kT))),(1,.arr ((A++(eW c).rob++B).map enL) 17)]):=by
 refine HCall.intro (C:=C1) (s:=2) c1Ok.at Tryz.func28 rfl rfl (by kernel_rfl) rfl rfl<|fZ<|cSR<|oR 5 rfl<|rV (vB (c.halt != 0)) rfl<|rE 8<|aS rfl (λh1=>?_) (λh1=>?_)
 ·have h1p:=xH h1;refine rL ?_;have e:eW c=c:=if_pos h1p;rw[e];exact pK (rs:=[]) rfl (σ:=λz=>z) ⟨rfl,rfl⟩ rfl (cI (λz=>z) rfl rfl wH rfl)
 ·have h1p:=xI h1;refine mH<|cSR<|oR 1 rfl<|rE 9<|cSR<|oR 5 rfl<|rV (vN n) rfl<|rFx (x:=.osl 15 0 n false) (h':=upd _ 15 (some (.arr ((List.replicate n 0).map iK) 1))) rfl rfl (Qc (fO (f:=iK) (a:=0)).symm) (⟨aH _,Fj.2 omT,by show(n:Int)<=1000000;omega⟩)<|oR 1 rfl<|rE 17<|cSR<|oR 5 rfl<|rV (vN n) rfl<|rFx (x:=.osl 23 0 n false) (h':=upd _ 23 (some (.arr ((List.replicate n false).map zT) 1))) rfl rfl (Qc (fO (f:=zT) (a:=false)).symm) (⟨aH _,Fj.2 omT,by show(n:Int)<=1000000;omega⟩)<|oR 1 rfl<|rE 25<|Fs<|cSR<|oR 5 rfl<|rV (vN n) rfl<|oR 1 rfl<|rE 32<|qV<|tC (κ:=Nat) (λk=>⟨slotsF [(0,.ptr 0 0),(14,vB (c.halt != 0)),(3,.osl 15 0 n false),(4,.osl 23 0 n false),(33,.osl 1 lo n kR),(34,vN n),(2,vB ((c.rob.take k).any Dy)),(35,vN k)],heapF [(0,.box (mcX c (.osl 1 lo n kR) (.sl 2 xF kF) (.sl 2 (c.stores.map ptL) kS) (.sl 9 xT kT))),(1,.arr ((A++c.rob++B).map enL) 17),(15,.arr ((rO c k).map iK) 1),(23,.arr ((xG c k).map zT) 1)],32⟩) (λk=>k<=n) (λk=>n-k) 0 (λs=>s) (Weak.of_lists (λs=>s) wT ⟨⟨rfl,rfl,rfl⟩,⟨rfl,rfl,rfl⟩,⟨rfl,(congrArg (λz:List Int=>some (Blk.arr (z.map iK) 1)) (KT hn)),rfl⟩,⟨rfl,(congrArg (λz:List Bool=>some (Blk.arr (z.map zT) 1)) (NE hn)),rfl⟩,trivial⟩ rfl) rfl (aE _) ?_;intro k hk;have hkn:k<=n:=hk;have hkB:k<=1000:=by have:=hm.rob;omega
  have hkl1:(rO c k).length=n:=(Gh omT).trans hn;have hkl2:(xG c k).length=n:=(Eu omT).trans hn;refine cSR<|rW (vB (decide (k<n))) rfl (okB (ltN _ _))<|rE 33<|fZ<|aS rfl (λh2=>?_) (λh2=>?_)
  ·have h2p:=of_decide_eq_true h2;refine mH<|fZ<|qV<|cSR<|oR 1 rfl<|nW (.ptr2 1 (lo+k) 0) rfl rfl ixT ?_;obtain⟨x,hx⟩:∃y_,c.rob[k]?=some y_:=⟨_,aA omT⟩;have hxo:=hm.ok.robo x (aB hx);refine rIx (enL x) (.agg (enL x)) rfl rfl (fW (jM hlo hx)) rfl<|rAl 36 rfl rfl<|oR 1 rfl<|rSt rfl<|rE 39<|cSR<|oR 4 rfl<|rCi rfl (pV x.i)<|nW (.ptr2 15 (0+k) 0) rfl rfl ixT ?_;obtain⟨x1,hx1⟩:∃y_,(rO c k)[k]?=some y_:=⟨_,aA omT⟩;have hx2:((rO c k).set k (kindOf x.i.op:Int))[k]?=some (kindOf x.i.op:Int):=aT omT;refine nL (iK x1) (h':=upd _ 15 (some (.arr (((rO c k).set k (kindOf x.i.op:Int)).map iK) 1))) rfl rfl rfl (⟨aH _,IE (fW hx1)⟩) (vY (f:=iK) (l:=rO c k) (k:=k) (x:=(kindOf x.i.op:Int)))<|rE 46<|cSR<|oR 4 rfl<|fV _ rfl rfl rfl (qE.of_dcall (C:=C0) (show cA C0 69 [.dp 64 0 (mcX c (.sl 17 (List.take n (List.drop lo ((A++c.rob++B).map enL))) kR) (.sl 2 xF kF) (.sl 2 (c.stores.map ptL) kS) (.sl 9 xT kT)),vN k] _ from by rw[uC (l:=c.rob) hlo (by first|exact hn|(rw[bY];exact hn)|(simp only[bY];exact hn))];exact XN c nb hm (.sl 2 xF kF) (.sl 2 (c.stores.map ptL) kS) (.sl 9 xT kT) kR k omT) (by rfl) (by exact⟨⟨rfl,(r4 (r4 (r4 (r4 (r4 (r4 (r4 (r4 (r4 (r4 (r4 (r4 ⟨(by show lo+n<=((A++c.rob++B).map enL).length;simp only[aG,aQ,bY];omega),tvT⟩))))))))))))⟩,trivial,trivial⟩) (by rfl)) ?_;rintro _ _ ⟨rfl,rfl⟩;refine nW (.ptr2 23 (0+k) 0) rfl rfl ixT ?_;obtain⟨x3,hx3⟩:∃y_,(xG c k)[k]?=some y_:=⟨_,aA omT⟩;have hx4:((xG c k).set k (Ci c k))[k]?=some (Ci c k):=aT omT;refine nL (zT x3) (h':=upd _ 23 (some (.arr (((xG c k).set k (Ci c k)).map zT) 1))) rfl rfl rfl (⟨aH _,IE (fW hx3)⟩) (vY (f:=zT) (l:=xG c k) (k:=k) (x:=Ci c k))<|rE 53<|cSR<|oR 2 rfl<|nW (.ptr2 15 (0+k) 0) rfl rfl ixT<|rIx (iK (kindOf x.i.op:Int)) (vN (kindOf x.i.op)) rfl rfl (IE (fW hx2)) rfl<|rW (vB ((kindOf x.i.op)==2)) rfl (okB (eqN _ _))<|oR 1 rfl<|gN rfl<|gS rfl id<|gBS rfl id rfl<|cU rfl rfl rfl (λh=>h)<|rE 63<|aS rfl (λh3=>?_) (λh3=>?_)
   ·refine cRg<|oR 1 rfl<|rE 64<|cRg ?_;have b1:k+1<=1001:=aF hkB (aC 1);refine rW (vN (k+1)) rfl (okI (bJ b1 rfl))<|oR 1 rfl<|rE 66<|.mk _ (.refl _) ⟨k+1,λs=>s,Weak.of_lists _ ⟨⟨rfl,rfl⟩,⟨rfl,rfl⟩,⟨rfl,rfl⟩,⟨rfl,rfl⟩,⟨rfl,rfl⟩,⟨rfl,rfl⟩,⟨(dM (by rw[Mi hx];have z:=h3;simp_all[c2a,Dy])),rfl⟩,⟨rfl,rfl⟩,trivial⟩ ⟨⟨rfl,rfl,rfl⟩,⟨rfl,rfl,rfl⟩,⟨rfl,(congrArg (λz:List Int=>some (Blk.arr (z.map iK) 1)) (Gi hx)),rfl⟩,⟨rfl,(congrArg (λz:List Bool=>some (Blk.arr (z.map zT) 1)) (Jp omT)),rfl⟩,trivial⟩ rfl,rfl,by omega,by show n-(k+1)<n-k;omega⟩
   ·refine mH<|cRg ?_;have b2:k+1<=1001:=aF hkB (aC 1);refine rW (vN (k+1)) rfl (okI (bJ b2 rfl))<|oR 1 rfl<|rE 65<|.mk _ (.refl _) ⟨k+1,λs=>s,Weak.of_lists _ ⟨⟨rfl,rfl⟩,⟨rfl,rfl⟩,⟨rfl,rfl⟩,⟨rfl,rfl⟩,⟨rfl,rfl⟩,⟨rfl,rfl⟩,⟨(dM (by rw[Mi hx];have z:=h3;simp_all[c2a,Dy])),rfl⟩,⟨rfl,rfl⟩,trivial⟩ ⟨⟨rfl,rfl,rfl⟩,⟨rfl,rfl,rfl⟩,⟨rfl,(congrArg (λz:List Int=>some (Blk.arr (z.map iK) 1)) (Gi hx)),rfl⟩,⟨rfl,(congrArg (λz:List Bool=>some (Blk.arr (z.map zT) 1)) (Jp omT)),rfl⟩,trivial⟩ rfl,rfl,by omega,by show n-(k+1)<n-k;omega⟩
  ·have h2p:=aD h2;obtain⟨p,hp,hP,hpl,hp2⟩:=Ap (k:=k) hm.cf (λq=>q h1p) omT;refine Je<| .mk _ (.step (some (15,1,(rO c k).map iK)) (Ghost.of_lists (l:=[(0,.ptr 0 0),(14,vB (c.halt != 0)),(3,.sl 1 ((rO c k).map iK) false),(4,.osl 23 0 n false),(2,vB ((c.rob.take k).any Dy)),(36,vB (decide (k<n)))]) (hp:=[(0,.box (mcX c (.osl 1 lo n kR) (.sl 2 xF kF) (.sl 2 (c.stores.map ptL) kS) (.sl 9 xT kT))),(1,.arr ((A++c.rob++B).map enL) 17),(23,.arr ((xG c k).map zT) 1)]) rfl rfT rbT) (.step (some (23,1,(xG c k).map zT)) (Ghost.of_lists (l:=[(0,.ptr 0 0),(14,vB (c.halt != 0)),(3,.sl 1 ((rO c k).map iK) false),(4,.sl 1 ((xG c k).map zT) false),(2,vB ((c.rob.take k).any Dy)),(36,vB (decide (k<n)))]) (hp:=[(0,.box (mcX c (.osl 1 lo n kR) (.sl 2 xF kF) (.sl 2 (c.stores.map ptL) kS) (.sl 9 xT kT))),(1,.arr ((A++c.rob++B).map enL) 17)]) rfl rfT rbT) (.refl _)))<|cSR<|oR 9 rfl<|rCl (x:=.sl 1 (p.map QT) false) rfl (.inl rfl) ((by rw[<-hp];exact YF c.conf.width ((c.rob.take k).any Dy) (rO c k) (xG c k) false false (by rw[Gh omT];exact hm.rob) (by rw[Eu omT];exact hm.rob)))<|rW (vN p.length) rfl (bT QT p)<|oR 1 rfl<|rE 45<|qV<|tC (κ:=Nat×Co×Bool) (λz_=>match z_ with|(j,d,false)=>⟨slotsF [(0,.ptr 0 0),(14,vB (c.halt != 0)),(36,vB (decide (k<n))),(72,.sl 1 (p.map QT) false),(73,vN p.length),(74,vN j)],heapF [(0,.box (mcX d (.osl 1 lo n kR) (.sl 2 xF kF) (.sl 2 (d.stores.map ptL) kS) (.sl 9 xT kT))),(1,.arr ((A++d.rob++B).map enL) 17)],45⟩|(j,d,true)=>⟨slotsF [(0,.ptr 0 0),(14,vB (c.halt != 0)),(36,vB (decide (k<n))),(72,.sl 1 (p.map QT) false),(73,vN p.length),(74,vN j)],heapF [(0,.box (mcX d (.osl 1 lo n kR) (.sl 2 xF kF) (.sl 2 (d.stores.map ptL) kS) (.sl 9 xT kT))),(1,.arr ((A++d.rob++B).map enL) 17)],45⟩) (λz_=>match z_ with|(j,d,_)=>j<=p.length∧d.okM (nb+j)∧d.rob.length=n∧(p.drop j).foldl fD d=eW c) (λz_=>p.length-z_.1) (0,c,false) (λs=>s) (Weak.of_lists (λs=>s) wT wH rfl) rfl (⟨aE _,hm,hn,hP.symm⟩) ?_;intro z_ hj;obtain⟨j,d,b_⟩:=z_;cases b_
   ·have hjn:j<=p.length:=hj.1;have hjB:j<=2:=by omega
    have hd:d.okM (nb+j):=hj.2.1;have hdn:d.rob.length=n:=hj.2.2.1;have hG:(p.drop j).foldl fD d=eW c:=hj.2.2.2;refine cSR<|rW (vB (decide (j<p.length))) rfl (okB (ltN _ _))<|rE 46<|fZ<|aS rfl (λh4=>?_) (λh4=>?_)
    ·have h4p:=of_decide_eq_true h4;refine mH<|fZ<|qV<|cSR ?_;obtain⟨x,hx⟩:∃y_,p[j]?=some y_:=⟨_,aA omT⟩;have hxo:=hpl x (aB hx);have hs:=vW hd omT x;refine rIx (QT x) (.dp 1 0 (QT x)) rfl rfl (fW hx) rfl<|oR 2 rfl<|rE 49<|cRg<|oR 2 rfl<|fV _ rfl rfl rfl ((Up d (nb+j) hd x (by have:=hxo;omega) A B lo n kR kF kS kT xF xT hlo hdn hA).frameB2 (λz=>z) _ _ rfl ⟨⟨rfl,rfl,rfl,rfl⟩,⟨rfl,rfl,rfl,rfl⟩,trivial⟩ rfl rfl rfl rfl rfl) ?_;rintro _ _ ⟨rfl,rfl⟩;refine rE 52<|cRg ?_;have b3:j+1<=3:=aF hjB (aC 1);refine rW (vN (j+1)) rfl (okI (bJ b3 rfl))<|oR 1 rfl<|rE 54<|.mk _ (.refl _) ⟨(j+1,fD d x,false),λi=>i,Weak.of_lists _ wT ⟨⟨rfl,(congrArg (λz:List Pt=>some (Blk.box (mcX (fD d x) (.osl 1 lo n kR) (.sl 2 xF kF) (.sl 2 (z.map ptL) kS) (.sl 9 xT kT)))) hs.2.2.2.1.symm),rfl⟩,⟨rfl,rfl,rfl⟩,trivial⟩ rfl,rfl,⟨by omega,hs.1,hs.2.1.trans hdn,(Gj hx).trans hG⟩,by show p.length-(j+1)<p.length-j;omega⟩
    ·have h4p:=aD h4;refine Je ?_;have e:eW c=d:=by rw[<-hG,cC omT];rfl
     rw[e];exact pK (rs:=[]) rfl (σ:=λz=>z) ⟨rfl,rfl⟩ rfl (cI (λz=>z) rfl rfl wH rfl)
   ·have hjn:j<=p.length:=hj.1;have hjB:j<=2:=by omega
    have hd:d.okM (nb+j):=hj.2.1;have hdn:d.rob.length=n:=hj.2.2.1;have hG:(p.drop j).foldl fD d=eW c:=hj.2.2.2;refine cSR<|rW (vB (decide (j<p.length))) rfl (okB (ltN _ _))<|rE 46<|fZ<|aS rfl (λh5=>?_) (λh5=>?_)
    ·have h5p:=of_decide_eq_true h5;refine mH<|fZ<|qV<|cSR ?_;obtain⟨x,hx⟩:∃y_,p[j]?=some y_:=⟨_,aA omT⟩;have hxo:=hpl x (aB hx);have hs:=vW hd omT x;refine rIx (QT x) (.dp 1 0 (QT x)) rfl rfl (fW hx) rfl<|oR 2 rfl<|rE 49<|cRg<|oR 2 rfl<|fV _ rfl rfl rfl ((Up d (nb+j) hd x (by have:=hxo;omega) A B lo n kR kF kS kT xF xT hlo hdn hA).frameB2 (λz=>z) _ _ rfl ⟨⟨rfl,rfl,rfl,rfl⟩,⟨rfl,rfl,rfl,rfl⟩,trivial⟩ rfl rfl rfl rfl rfl) ?_;rintro _ _ ⟨rfl,rfl⟩;refine rE 52<|cRg ?_;have b4:j+1<=3:=aF hjB (aC 1);refine rW (vN (j+1)) rfl (okI (bJ b4 rfl))<|oR 1 rfl<|rE 54<|.mk _ (.refl _) ⟨(j+1,fD d x,false),λi=>i,Weak.of_lists _ wT ⟨⟨rfl,(congrArg (λz:List Pt=>some (Blk.box (mcX (fD d x) (.osl 1 lo n kR) (.sl 2 xF kF) (.sl 2 (z.map ptL) kS) (.sl 9 xT kT)))) hs.2.2.2.1.symm),rfl⟩,⟨rfl,rfl,rfl⟩,trivial⟩ rfl,rfl,⟨by omega,hs.1,hs.2.1.trans hdn,(Gj hx).trans hG⟩,by show p.length-(j+1)<p.length-j;omega⟩
    ·have h5p:=aD h5;refine Je ?_;have e:eW c=d:=by rw[<-hG,cC omT];rfl
     rw[e];exact pK (rs:=[]) rfl (σ:=λz=>z) ⟨rfl,rfl⟩ rfl (cI (λz=>z) rfl rfl wH rfl)
def SE(c:Co)(nb:Nat)(hm:c.okM nb)(h0:c.rob=[])(kF kS kT:Bool)(xF xT:List (List AV)):qE C0.P C0.G 28 [.ptr 0 0] (heapF [(0,.box (mcX c (.sl 17 [] false) (.sl 2 xF kF) (.sl 2 (c.stores.map ptL) kS) (.sl 9 xT kT)))]) 1 (λx h'=>x=.tup []∧h'=heapF [(0,.box (mcX (eW c) (.sl 17 [] false) (.sl 2 xF kF) (.sl 2 ((eW c).stores.map ptL) kS) (.sl 9 xT kT)))]):=by
 refine HCall.intro (C:=C1) (s:=1) c1Ok.at Tryz.func28 rfl rfl (by kernel_rfl) rfl rfl<|qS 0 rfl<|rV (vB (c.halt != 0)) rfl<|qRC 0 rfl<|aS rfl (λh1=>?_) (λh1=>?_)
 ·refine qCF 0 rfl ?_;have e:eW c=c:=by unfold eW Aw zN;rw[h0];split<;>rfl
  rw[e];exact pK (rs:=[]) rfl (σ:=λz=>z) ⟨rfl,rfl⟩ rfl (cI (λz=>z) rfl rfl wH rfl)
 ·refine qC 0 rfl<|rW (vN 0) rfl (vX enL ([]:List Ent) omT)<|rFx (x:=.osl 14 0 0 false) (h':=upd _ 14 (some (.arr (([]:List Int).map iK) 1))) rfl rfl (rfl) (⟨by decide,by decide,by show((0:Nat):Int)<=1000000;omega⟩)<|qR 0 rfl<|rW (vN 0) rfl (vX enL ([]:List Ent) omT)<|rFx (x:=.osl 22 0 0 false) (h':=upd _ 22 (some (.arr (([]:List Bool).map zT) 1))) rfl rfl (rfl) (⟨by decide,by decide,by show((0:Nat):Int)<=1000000;omega⟩)<|qRJ 0 0 rfl<|Fs<|qS 0 rfl<|rW (vN 0) rfl (vX enL ([]:List Ent) omT)<|qRC 0 rfl<|tC (κ:=Nat) (λk=>⟨slotsF [(0,.ptr 0 0),(14,vB (c.halt != 0)),(3,.osl 14 0 0 false),(4,.osl 22 0 0 false),(33,.sl 17 (([]:List Ent).map enL) false),(34,vN 0),(2,vB false),(35,vN k)],heapF [(0,.box (mcX c (.sl 17 (([]:List Ent).map enL) false) (.sl 2 xF kF) (.sl 2 (c.stores.map ptL) kS) (.sl 9 xT kT))),(14,.arr (([]:List Int).map iK) 1),(22,.arr (([]:List Bool).map zT) 1)],31⟩) (λk=>k<=0) (λk=>0-k) 0 (λs=>s) (Weak.of_lists (λs=>s) wT wH rfl) rfl (aE _) ?_;intro k hk;have hkB:k<=1000:=by omega
  refine qS 0 rfl<|rW (vB (decide (k<0))) rfl (okB (ltN _ _))<|qRC 0 rfl<|aS rfl (λh2=>by exact absurd (of_decide_eq_true h2) (dD _)) (λ_=>?_);refine qCF 0 rfl<|qXF 0 rfl<| .mk _ (.step (some (14,1,([]:List Int).map iK)) (Ghost.of_lists (l:=[(0,.ptr 0 0),(14,vB (c.halt != 0)),(3,.sl 1 (([]:List Int).map iK) false),(4,.osl 22 0 0 false),(2,vB false),(36,vB (decide (k<0)))]) (hp:=[(0,.box (mcX c (.sl 17 (([]:List Ent).map enL) false) (.sl 2 xF kF) (.sl 2 (c.stores.map ptL) kS) (.sl 9 xT kT))),(22,.arr (([]:List Bool).map zT) 1)]) rfl rfT rbT) (.step (some (22,1,([]:List Bool).map zT)) (Ghost.of_lists (l:=[(0,.ptr 0 0),(14,vB (c.halt != 0)),(3,.sl 1 (([]:List Int).map iK) false),(4,.sl 1 (([]:List Bool).map zT) false),(2,vB false),(36,vB (decide (k<0)))]) (hp:=[(0,.box (mcX c (.sl 17 (([]:List Ent).map enL) false) (.sl 2 xF kF) (.sl 2 (c.stores.map ptL) kS) (.sl 9 xT kT)))]) rfl rfT rbT) (.refl _)))<|qC 0 rfl<|rCi rfl (YF c.conf.width false [] [] false false (by decide) (by decide))<|rW (vN 0) rfl (vX QT ([]:List Nat) omT)<|qRC 0 rfl<|tC (κ:=Nat) (λj=>⟨slotsF [(0,.ptr 0 0),(14,vB (c.halt != 0)),(36,vB (decide (k<0))),(72,.sl 1 (([]:List Nat).map QT) false),(73,vN 0),(74,vN j)],heapF [(0,.box (mcX c (.sl 17 (([]:List Ent).map enL) false) (.sl 2 xF kF) (.sl 2 (c.stores.map ptL) kS) (.sl 9 xT kT)))],44⟩) (λj=>j<=0) (λj=>0-j) 0 (λs=>s) (Weak.of_lists (λs=>s) wT wH rfl) rfl (aE _) ?_;intro j hj;have hjB:j<=1000:=by omega
  refine qS 0 rfl<|rW (vB (decide (j<0))) rfl (okB (ltN _ _))<|qRC 0 rfl<|aS rfl (λh3=>by exact absurd (of_decide_eq_true h3) (dD _)) (λ_=>?_);refine qCF 0 rfl ?_;have e:eW c=c:=by unfold eW Aw zN;rw[h0];split<;>rfl
  rw[e];exact qXF 0 rfl<|pK (rs:=[]) rfl (σ:=λz=>z) ⟨rfl,rfl⟩ rfl (cI (λz=>z) rfl rfl wH rfl)
end Go.Proofs.YtgleompefdogkaaGreatDoor
