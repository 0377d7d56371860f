/- Joined texts. -/
import Derived.Test.YtgleompefdogkaaGreatDoorS1
import Derived.Test.YtgleompefdogkaaGreatDoorS28
import Derived.Test.YtgleompefdogkaaGreatDoorS30
import Derived.Test.YtgleompefdogkaaGreatDoorS32
import Derived.Test.YtgleompefdogkaaGreatDoorS35
set_option linter.unusedVariables false
set_option linter.unusedSimpArgs false
set_option linter.defProp false
namespace Go.Proofs.YtgleompefdogkaaGreatDoor
set_option maxRecDepth 100000
set_option maxHeartbeats 4000000
open Go.RowKit
def stV(s:St):Value:=.agg ((stL s.pc s.r s.mem s.halt).map unV).toArray
def spV(x:Sp):Value:=.agg ((spL x).map unV).toArray
def ae3(x:St×Sp):Array Value:= #[stV x.1,spV x.2]
def adZ{r:Nat->Nat}(h:∀k,r k<=4294967295){v:Nat}(hv:v<=4294967295)(n:Nat):∀k,setR r n v k<=4294967295:=by
 intro k;unfold setR;split
 ·exact hv
 ·exact h k
def ac9{m:ByteArray}{addr:Nat}{b:ByteArray}(h:addr+b.size<=m.size):(zO m addr b).size=m.size:=by
 show(zO m addr b).data.size=m.data.size;have h':addr+b.data.size<=m.data.size:=h;simp only[zO,mR,aQ,aL,aU,dQ];show min addr m.data.size+b.data.size+(m.data.size-(addr+b.data.size))=m.data.size;omega
def ab7{s:St}(h:s.ok)(why:Int)(addr:Nat):(Lh s why addr).1.ok:=⟨h.pc,h.r,h.mem⟩
def ad0{s:St}(h:s.ok){i:SI}{a b nx:Nat}{tk:Int}(hi:i.imm<=4294967295)(ha:a<=4294967295)(hb:b<=4294967295)(hn:nx<=4294967295):(FD s i a b nx tk).1.ok:=by
 unfold FD;split
 ·exact⟨hn,h.r,h.mem⟩
 ·exact⟨hn,adZ h.r (aY (Wb i.op i.imm s.pc a b (bQ hi) (bQ ha) (bQ hb))) _,h.mem⟩
def aeE{prog:List Nat}{s:St}(h:s.ok):(Ig prog s).1.ok:=by
 unfold Ig;split
 ·split
  ·split
   ·exact ab7 h _ _
   ·have hd:=Qj (fetchW prog s.pc);have hi:(aO prog s).imm<=4294967295:=aY hd.2.2.2.2.2.2;unfold doI;split
    ·exact ab7 h _ _
    ·split
     ·exact ab7 h _ _
     ·split
      ·unfold cF;split
       ·rename_i hr;have hq:=xD hr;split
        ·exact⟨zP _,h.r,by rw[ac9 (by rw[tW];exact hq.1)];exact h.mem⟩
        ·split
         ·exact⟨zP _,h.r,h.mem⟩
         ·exact⟨zP _,adZ h.r (SH _ _) _,h.mem⟩
       ·exact ab7 h _ _
      ·unfold dG;split
       ·split
        ·exact ad0 h hi (h.r _) (h.r _) (aY (MK _ _ _ _ _))
        ·exact ab7 h _ _
       ·exact ad0 h hi (h.r _) (h.r _) (zP _)
  ·exact ab7 h _ _
 ·exact h
def ae9{ev:Operand->AV}{h:AH}{s b n v:Nat}{a x:Operand}{pc:Nat}{r:Nat->Nat}{m:ByteArray}{hl:Int}(ha:ev a=.ptr b (1+n*1))(hb:h b=some (.box (stL pc r m hl)))(hx:ev x=.v (.int .u32 (v:Int)))(hn:n<32):
  opA C1 ev h s (.store 28 a x)=.fx True .any (upd h b (some (.box (stL pc (setR r n v) m hl)))):=stR (s:=s) ha hb hx hn
def stN(prog:List Nat)(s:St):Nat->St
 |0=>s
 |k+1=>(Ig prog (stN prog s k)).1
theorem aeL{prog:List Nat}{s:St}(h:s.ok):∀k,(stN prog s k).ok
 |0=>h
 |k+1=>aeE (aeL h k)
theorem ad1(prog:List Nat)(s:St):∀k,stN prog (Ig prog s).1 k=stN prog s (k+1)
 |0=>rfl
 |k+1=>congrArg (λz=>(Ig prog z).1) (ad1 prog s k)
def xsN(prog:List Nat)(s:St)(k:Nat):List (St×Sp):=(List.range k).map λi=>Ig prog (stN prog s i)
def aeM(prog:List Nat)(s:St)(k:Nat):xsN prog s k++[Ig prog (stN prog s k)]=xsN prog s (k+1):=by
 unfold xsN;rw[kA,dY];rfl
def ac4(prog:List Nat)(s:St)(k:Nat):(xsN prog s k).length=k:=by unfold xsN;rw[aG,gT]
def aeT{prog:List Nat}{s:St}{k n:Nat}(h:k<=n):xsN prog s k <+: xsN prog s n:=by
 have e:xsN prog s k=(xsN prog s n).take k:=by unfold xsN;rw[<-eZ,List.take_range,tB h]
 rw[e];exact List.take_prefix _ _
def cntN(prog:List Nat):Nat->St->Nat
 |0,_=>0
 |n+1,s=>if s.halt=0 then cntN prog n (Ig prog s).1+1 else 0
theorem acO(prog:List Nat):∀n s,cntN prog n s<=n
 |0,_=>aC 0
 |n+1,s=>by
  have:=acO prog n (Ig prog s).1;unfold cntN;split<;>omega
theorem aeN{prog:List Nat}:∀{n:Nat} {s:St} {k:Nat},k<cntN prog n s->(stN prog s k).halt=0
 |0,s,k,h=>absurd h (dD k)
 | n+1,s,k,h=>by
  unfold cntN at h;split at h
  ·rename_i h0
   cases k with
   |zero=>exact h0
   |succ k=>rw[<-ad1];exact aeN (n:=n) omT
  ·omega
theorem ad2{prog:List Nat}:∀{n:Nat} {s:St},cntN prog n s<n->(stN prog s (cntN prog n s)).halt≠0
 |0,s,h=>absurd h (dD _)
 | n+1,s,h=>by
  unfold cntN at h⊢;split at h
  ·rename_i h0;rw[if_pos h0, <-ad1];exact ad2 omT
  ·rename_i h0;rw[if_neg h0];exact h0
def aeF{prog:List Nat}{n:Nat}{s:St}{k:Nat}(h:k<=cntN prog n s)(h1:k<n)(h2:(stN prog s k).halt=0):k<cntN prog n s:=by
 rcases al_Nat_lt_or_ge k (cntN prog n s)with h3|h3
 ·exact h3
 ·have e:k=cntN prog n s:=by omega
  exact absurd h2 (e ▸ ad2 omT)
def ae4{prog:List Nat}{n:Nat}{s:St}{k:Nat}(h:k<=cntN prog n s)(h1: ¬(k<n∧(stN prog s k).halt=0)):k=cntN prog n s:=by
 rcases al_Nat_lt_or_ge k (cntN prog n s)with h3|h3
 ·exact absurd ⟨Nat.lt_of_lt_of_le h3 (acO ..),aeN h3⟩ h1
 ·omega
def ab0{a b:Bool}(h:cR a b false=true):a=true∧b=true:=by cases a<;>cases b<;>simp[cR]at h⊢
def ad3{a b:Bool}(h:cR a b false=false): ¬(a=true∧b=true):=by cases a<;>cases b<;>simp[cR]at h⊢
def ab8(s:St)(l:List (St×Sp)):St:=(l.getLast?.map (·.1)).getD s
def aeG(s:St)(l:List (St×Sp))(x:St×Sp):ab8 s (l++[x])=x.1:=by unfold ab8;rw[List.getLast?_concat];rfl
def Lr(s:St)(why:Int)(hs:s.ok):cA C0 171 [stA s,.v (.int .i64 why)] (two (Lh s why 0)):=by
 refine dc1 (cA.intro c1Ok Tryz.func171 rfl rfl (by kernel_rfl) rfl ?_);refine qS 0 rfl<|rV (.agg [.v (.int .u32 ((s.pc:Nat):Int)),.v (.int .u32 ((s.pc:Nat):Int)),.v (.int .i64 0),.v (.int .u32 0),.v (.int .u32 0),.v (.int .i64 0),.v (.bool false),.v (.int .i64 why),.v (.int .i64 0)]) rfl ?_;refine qRC 0 rfl<|Fu rfl rfl<|oR 2 rfl<|rSt rfl<|rSt rfl<|rE 18<|And.intro (by kernel_rfl)<|qXF 0 rfl ?_;exact yL rfl trivial rfl rfl
def QC(s:St)(i:SI)(a b:Nat)(hs:s.ok)(hi:i.imm<=4294967295)(ha:a<=4294967295)(hb:b<=4294967295)(hw0:0<=wr i)(hw:wr i<32):cA C0 172 [stA s,siA i,.v (.int .u32 (a:Int)),.v (.int .u32 (b:Int))] (two (cF s i a b)):=by
 refine dc1 (cA.intro c1Ok Tryz.func172 rfl rfl (by kernel_rfl) rfl ?_);refine qSC 0 rfl<|cRg<|oR 3 rfl<|rV (.v (.int .u32 ((addrOf i a:Nat):Int))) rfl<|oR 1 rfl<|rCi rfl (FE i)<|oR 2 rfl<|rE 12 ?_;refine qX 0 rfl<|rCi rfl (pV i)<|rW (.v (.bool ((kindOf i.op)==4))) rfl (okB (eqN _ _))<|qR 0 rfl<|rV (.v (.int .i64 (s.mem.size:Int))) rfl<|qR 0 rfl<|rCi rfl (Gz _ _ _ (by have:=hs.mem;omega) (bQ (Ls i a))) ?_;refine qRC 0 rfl<|aS rfl (λh1=>?_) (λh1=>?_)
 ·skip
  refine qCC 0 rfl<|aS rfl (λh2=>?_) (λh2=>?_)
  ·refine qC 0 rfl<|rCi rfl (Lr s (5) hs) ?_;refine qRC 0 rfl<|Fu rfl rfl<|oR 2 rfl<|rSt rfl<|rSt rfl<|rE 43<|And.intro (by kernel_rfl)<|qXF 0 rfl ?_;exact fT rfl (by unfold cF;rw[if_neg (by simpa using h1),if_pos (by simpa using h2)];rfl)
  ·refine qC 0 rfl<|rCi rfl (Lr s (4) hs) ?_;refine qRC 0 rfl<|Fu rfl rfl<|oR 2 rfl<|rSt rfl<|rSt rfl<|rE 42<|And.intro (by kernel_rfl)<|qXF 0 rfl ?_;exact fT rfl (by unfold cF;rw[if_neg (by simpa using h1),if_neg (by simpa using h2)];rfl)
 ·refine qCC 0 rfl<|cRg<|oR 4 rfl<|rV (.v (.int .u32 ((up4 s.pc:Nat):Int))) rfl<|oR 1 rfl<|rCi rfl (CJ i)<|oR 3 rfl<|rV (.agg [.v (.int .u32 ((s.pc:Nat):Int)),.v (.int .u32 ((up4 s.pc:Nat):Int)),.v (.int .i64 (wr i)),.v (.int .u32 0),.v (.int .u32 ((addrOf i a:Nat):Int)),.v (.int .i64 ((bC i.op:Nat):Int)),.v (.bool ((kindOf i.op)==4)),.v (.int .i64 0),.v (.int .i64 0)]) rfl<|rAl 34 rfl rfl<|rSt rfl<|rE 36 ?_;refine qXC 0 rfl<|aS rfl (λh3=>?_) (λh3=>?_)
  ·refine qC 0 rfl<|rCi rfl (MJ b (bC i.op) (bQ hb) (rG i.op))<|qR 0 rfl<|rCi rfl (Yn _ (by rw[tW];exact rG i.op))<|qR 0 rfl<|rCi rfl (Yu _ _ _ (by rw[tW];simpa using h1) hs.mem (Ls i a)) ?_;refine qRC 0 rfl<|Fu rfl rfl<|oR 2 rfl<|rSt rfl<|rSt rfl<|rE 70<|And.intro (by kernel_rfl)<|qXF 0 rfl ?_;exact fT rfl (by unfold cF;rw[if_pos (by simpa using h1),if_pos (by simpa using h3)];rfl)
  ·refine qC 0 rfl<|rV (.v (.bool ((wr i) != 0))) rfl ?_;refine qRC 0 rfl<|aS rfl (λh4=>?_) (λh4=>?_)
   ·refine qC 0 rfl<|rCi rfl (aaC _ _ _ (by simpa using h1) hs.mem (Ls i a))<|qR 0 rfl<|rCi rfl (Yo _ _ (Ts hs.mem _ _))<|qR 0 rfl<|nW (.ptr 0 (1+(wr i).toNat*1)) rfl rfl omT ?_;refine tK (h':=upd _ 0 (some (.box (stL s.pc (setR s.r ((wr i).toNat) (loadP i.op (rJ s.mem (addrOf i a) (bC i.op)))) s.mem s.halt)))) rfl rfl (ae9 (n:=(wr i).toNat) (v:=loadP i.op (rJ s.mem (addrOf i a) (bC i.op))) (r:=s.r) rfl rfl rfl omT) (trivial)<|qRC 0 rfl<|Fu rfl rfl<|oR 2 rfl<|rSt rfl<|rSt rfl<|rE 71<|And.intro (by kernel_rfl)<|qXF 0 rfl ?_;exact fT rfl (by unfold cF;rw[if_pos (by simpa using h1),if_neg (by simpa using h3),if_neg (by simpa using h4)];rfl)
   ·refine qCC 0 rfl<|Fu rfl rfl<|oR 2 rfl<|rSt rfl<|rSt rfl<|rE 48<|And.intro (by kernel_rfl)<|qXF 0 rfl ?_;exact fT rfl (by unfold cF;rw[if_pos (by simpa using h1),if_neg (by simpa using h3),if_pos (by simpa using h4)];rfl)
def Wi(s:St)(i:SI)(a b:Nat)(hs:s.ok)(hi:i.imm<=4294967295)(ha:a<=4294967295)(hb:b<=4294967295)(hw0:0<=wr i)(hw:wr i<32):cA C0 173 [stA s,siA i,.v (.int .u32 (a:Int)),.v (.int .u32 (b:Int))] (two (dG s i a b)):=by
 refine dc1 (cA.intro c1Ok Tryz.func173 rfl rfl (by kernel_rfl) rfl ?_);refine qSC 0 rfl<|cRg<|oR 4 rfl<|rV (.v (.int .u32 ((up4 s.pc:Nat):Int))) rfl<|oR 1 rfl<|rCi rfl (CJ i)<|rV (.agg [.v (.int .u32 ((s.pc:Nat):Int)),.v (.int .u32 ((up4 s.pc:Nat):Int)),.v (.int .i64 (wr i)),.v (.int .u32 0),.v (.int .u32 0),.v (.int .i64 0),.v (.bool false),.v (.int .i64 0),.v (.int .i64 0)]) rfl<|rAl 12 rfl rfl<|rSt rfl ?_;refine rE 14<|qX 0 rfl<|rCi rfl (pV i)<|qR 0 rfl<|rW (.v (.bool ((kindOf i.op)==5))) rfl (okB (eqN _ _)) ?_;refine qRC 0 rfl<|aS rfl (λh1=>?_) (λh1=>?_)
 ·refine qC 0 rfl<|rCi rfl (Li i _ _ _ (bQ hi) (bQ hs.pc) (bQ ha) (bQ hb)) ?_;refine qRC 0 rfl<|aS rfl (λh2=>?_) (λh2=>?_)
  ·refine qC 0 rfl<|rCi rfl (Lr s (3) hs)<|qRF 0 rfl ?_;exact fT rfl (by unfold dG FD;rw[if_pos (by simpa using h1),if_neg (by simpa using h2)];rfl)
  ·refine qC 0 rfl<|rV (.v (.bool ((wr i) != 0))) rfl ?_;refine qRC 0 rfl<|aS rfl (λh3=>?_) (λh3=>?_)
   ·refine qC 0 rfl<|rCi rfl (MI i _ _ _ (bQ hi) (bQ hs.pc) (bQ ha) (bQ hb))<|qR 0 rfl<|nW (.ptr 0 (1+(wr i).toNat*1)) rfl rfl omT<|tK (h':=upd _ 0 (some (.box (stL s.pc (setR s.r ((wr i).toNat) (rD i.op i.imm s.pc a b)) s.mem s.halt)))) rfl rfl (ae9 (n:=(wr i).toNat) (v:=rD i.op i.imm s.pc a b) (r:=s.r) rfl rfl rfl omT) (trivial) ?_;refine qRC 0 rfl<|Fu rfl rfl<|oR 2 rfl<|rSt rfl<|rSt rfl<|rE 60<|And.intro (by kernel_rfl)<|qXF 0 rfl ?_;exact fT rfl (by unfold dG FD;rw[if_pos (by simpa using h1),if_pos (by simpa using h2),if_neg (by simpa using h3)];rfl)
   ·refine qCC 0 rfl<|Fu rfl rfl<|oR 2 rfl<|rSt rfl<|rSt rfl<|rE 45<|And.intro (by kernel_rfl)<|qXF 0 rfl ?_;exact fT rfl (by unfold dG FD;rw[if_pos (by simpa using h1),if_pos (by simpa using h2),if_pos (by simpa using h3)];rfl)
 ·refine qC 0 rfl<|rW (.v (.bool ((kindOf i.op)==2))) rfl (okB (eqN _ _)) ?_;refine qRC 0 rfl<|aS rfl (λh4=>?_) (λh4=>?_)
  ·refine qC 0 rfl<|rCi rfl (VX _ _ _ (bQ ha) (bQ hb))<|qR 0 rfl<|rV (.v (.bool ((wr i) != 0))) rfl ?_;refine qRC 0 rfl<|aS rfl (λh5=>?_) (λh5=>?_)
   ·refine qC 0 rfl<|rCi rfl (MI i _ _ _ (bQ hi) (bQ hs.pc) (bQ ha) (bQ hb))<|qR 0 rfl<|nW (.ptr 0 (1+(wr i).toNat*1)) rfl rfl omT<|tK (h':=upd _ 0 (some (.box (stL s.pc (setR s.r ((wr i).toNat) (rD i.op i.imm s.pc a b)) s.mem s.halt)))) rfl rfl (ae9 (n:=(wr i).toNat) (v:=rD i.op i.imm s.pc a b) (r:=s.r) rfl rfl rfl omT) (trivial) ?_;refine qRC 0 rfl<|Fu rfl rfl<|oR 2 rfl<|rSt rfl<|rSt rfl<|rE 53<|And.intro (by kernel_rfl)<|qXF 0 rfl ?_;exact fT rfl (by unfold dG FD;rw[if_neg (by simpa using h1),if_neg (by simpa using h5),if_pos (by simpa using h4)];rfl)
   ·refine qCC 0 rfl<|Fu rfl rfl<|oR 2 rfl<|rSt rfl<|rSt rfl<|rE 38<|And.intro (by kernel_rfl)<|qXF 0 rfl ?_;exact fT rfl (by unfold dG FD;rw[if_neg (by simpa using h1),if_pos (by simpa using h5),if_pos (by simpa using h4)];rfl)
  ·refine qC 0 rfl<|rV (.v (.bool ((wr i) != 0))) rfl ?_;refine qRC 0 rfl<|aS rfl (λh6=>?_) (λh6=>?_)
   ·refine qC 0 rfl<|rCi rfl (MI i _ _ _ (bQ hi) (bQ hs.pc) (bQ ha) (bQ hb))<|qR 0 rfl<|nW (.ptr 0 (1+(wr i).toNat*1)) rfl rfl omT<|tK (h':=upd _ 0 (some (.box (stL s.pc (setR s.r ((wr i).toNat) (rD i.op i.imm s.pc a b)) s.mem s.halt)))) rfl rfl (ae9 (n:=(wr i).toNat) (v:=rD i.op i.imm s.pc a b) (r:=s.r) rfl rfl rfl omT) (trivial) ?_;refine qRC 0 rfl<|Fu rfl rfl<|oR 2 rfl<|rSt rfl<|rSt rfl<|rE 46<|And.intro (by kernel_rfl)<|qXF 0 rfl ?_;exact fT rfl (by unfold dG FD;rw[if_neg (by simpa using h1),if_neg (by simpa using h6),if_neg (by simpa using h4)];rfl)
   ·refine qCC 0 rfl<|Fu rfl rfl<|oR 2 rfl<|rSt rfl<|rSt rfl<|rE 31<|And.intro (by kernel_rfl)<|qXF 0 rfl ?_;exact fT rfl (by unfold dG FD;rw[if_neg (by simpa using h1),if_pos (by simpa using h6),if_neg (by simpa using h4)];rfl)
def aeU(prog:List Nat)(s:St)(clip:Bool)(hp:∀x∈prog,x<=4294967295)(hl:prog.length<=1000000)(hs:s.ok):cA C0 151 [.sl 1 (prog.map eE) clip,stA s] (two (Ig prog s)):=by
 refine dc1 (cA.intro c1Ok Tryz.func151 rfl rfl (by kernel_rfl) rfl ?_);have hd:0<=(aO prog s).rd∧(aO prog s).rd<32∧0<=(aO prog s).rs1∧(aO prog s).rs1<32∧0<=(aO prog s).rs2∧(aO prog s).rs2<32∧(aO prog s).imm<=4294967295:=by have:=Qj (fetchW prog s.pc);exact⟨this.1,this.2.1,this.2.2.1,this.2.2.2.1,this.2.2.2.2.1,this.2.2.2.2.2.1,aY this.2.2.2.2.2.2⟩
 have hv:=ZJ (fetchW prog s.pc);refine qS 0 rfl<|rV (.v (.bool (s.halt != 0))) rfl ?_;refine qRC 0 rfl<|aS rfl (λh1=>?_) (λh1=>?_)
 ·refine qC 0 rfl<|rV (.agg [.v (.int .u32 0),.v (.int .u32 0),.v (.int .i64 0),.v (.int .u32 0),.v (.int .u32 0),.v (.int .i64 0),.v (.bool false),.v (.int .i64 0),.v (.int .i64 0)]) rfl<|qRF 0 rfl ?_;exact fT rfl (by unfold Ig doI;rw[if_neg (by simpa using h1)];rfl)
 ·refine qC 0 rfl<|rCi rfl (MR prog s.pc clip hp hl hs.pc) ?_;refine qRC 0 rfl<|aS rfl (λh2=>?_) (λh2=>?_)
  ·refine qC 0 rfl<|rCi rfl (Lr s (1) hs)<|qRF 0 rfl ?_;exact fT rfl (by unfold Ig doI;rw[if_pos (by simpa using h1),if_neg (by simpa using h2)];rfl)
  ·refine qC 0 rfl<|rCi rfl (Io _ (bQ (QB hp s.pc)))<|qR 0 rfl<|rW (.v (.bool ((decE (fetchW prog s.pc)) != 0))) rfl (okB (neN _ _)) ?_;refine qRC 0 rfl<|aS rfl (λh3=>?_) (λh3=>?_)
   ·refine qC 0 rfl<|rCi rfl (Lr s (2) hs)<|qRF 0 rfl ?_;exact fT rfl (by unfold Ig doI;rw[if_pos (by simpa using h1),if_pos (by simpa using h2),if_pos ((CP _).1 h3)];rfl)
   ·refine qC 0 rfl<|rV (.v (.bool (((aO prog s).op)==47))) rfl ?_;refine qRC 0 rfl<|aS rfl (λh4=>?_) (λh4=>?_)
    ·refine qC 0 rfl<|rCi rfl (Lr s (6) hs)<|qRF 0 rfl ?_;exact fT rfl (by unfold Ig doI;rw[if_pos (by simpa using h1),if_pos (by simpa using h2),if_neg (λe=>by rw[(CP _).2 e]at h3;cases h3),if_pos (by simpa using h4)];rfl)
    ·refine qC 0 rfl<|rV (.v (.bool (((aO prog s).op)==48))) rfl ?_;refine qRC 0 rfl<|aS rfl (λh5=>?_) (λh5=>?_)
     ·refine qC 0 rfl<|rCi rfl (Lr s (7) hs)<|qRF 0 rfl ?_;exact fT rfl (by unfold Ig doI;rw[if_pos (by simpa using h1),if_pos (by simpa using h2),if_neg (λe=>by rw[(CP _).2 e]at h3;cases h3),if_neg (by simpa using h4),if_pos (by simpa using h5)];rfl)
     ·refine qC 0 rfl<|rCi rfl (EV (aO prog s))<|qRC 0 rfl<|cRg<|oR 2 rfl<|nW (.ptr 0 (1+((aO prog s).rs1).toNat*1)) rfl rfl omT<|rW (.v (.int .u32 ((s.r (((aO prog s).rs1).toNat):Nat):Int))) rfl (ldR s.pc s.r s.mem s.halt (((aO prog s).rs1).toNat) omT)<|oR 2 rfl<|nW (.ptr 0 (1+((aO prog s).rs2).toNat*1)) rfl rfl omT<|rW (.v (.int .u32 ((s.r (((aO prog s).rs2).toNat):Nat):Int))) rfl (ldR s.pc s.r s.mem s.halt (((aO prog s).rs2).toNat) omT)<|oR 2 rfl ?_;refine rE 50<|qX 0 rfl<|rCi rfl (pV (aO prog s))<|qR 0 rfl<|rW (.v (.bool ((kindOf (aO prog s).op)==3))) rfl (okB (eqN _ _)) ?_;refine qRC 0 rfl<|aS rfl (λh6=>?_) (λh6=>?_)
      ·skip
       refine qCC 0 rfl<|aS rfl (λ_=>?_) (λh7=>Bool.noConfusion (h6.symm.trans h7));refine qC 0 rfl<|rCi rfl (QC s (aO prog s) (s.r (aO prog s).rs1.toNat) (s.r (aO prog s).rs2.toNat) hs hd.2.2.2.2.2.2 (hs.r _) (hs.r _) hv.1 hv.2)<|qRF 0 rfl ?_;exact fT rfl (by unfold Ig doI;rw[if_pos (by simpa using h1),if_pos (by simpa using h2),if_neg (λe=>by rw[(CP _).2 e]at h3;cases h3),if_neg (by simpa using h4),if_neg (by simpa using h5),if_pos (by simp at h6;first|exact .inl h6|exact .inr h6)];rfl)
      ·refine qC 0 rfl<|rW (.v (.bool ((kindOf (aO prog s).op)==4))) rfl (okB (eqN _ _)) ?_;refine qRC 0 rfl<|aS rfl (λh8=>?_) (λh8=>?_)
       ·refine qC 0 rfl<|rCi rfl (QC s (aO prog s) (s.r (aO prog s).rs1.toNat) (s.r (aO prog s).rs2.toNat) hs hd.2.2.2.2.2.2 (hs.r _) (hs.r _) hv.1 hv.2)<|qRF 0 rfl ?_;exact fT rfl (by unfold Ig doI;rw[if_pos (by simpa using h1),if_pos (by simpa using h2),if_neg (λe=>by rw[(CP _).2 e]at h3;cases h3),if_neg (by simpa using h4),if_neg (by simpa using h5),if_pos (by simp at h8;first|exact .inl h8|exact .inr h8)];rfl)
       ·refine qC 0 rfl<|rCi rfl (Wi s (aO prog s) (s.r (aO prog s).rs1.toNat) (s.r (aO prog s).rs2.toNat) hs hd.2.2.2.2.2.2 (hs.r _) (hs.r _) hv.1 hv.2)<|qRF 0 rfl ?_;exact fT rfl (by unfold Ig doI;rw[if_pos (by simpa using h1),if_pos (by simpa using h2),if_neg (λe=>by rw[(CP _).2 e]at h3;cases h3),if_neg (by simpa using h4),if_neg (by simpa using h5),if_neg (by simp at h6 h8;omega)];rfl)
def ae5(prog:List Nat)(s0:St)(n:Int)(ck:Bool)(hp:∀x∈prog,x<=4294967295)(hl:prog.length<=1000)(hs:s0.ok)(hn:n<=10000):Tz C0 150 [.dp 35 0 (stL s0.pc s0.r s0.mem s0.halt),.dp 1 0 [vI n],.dp 1 0 [.sl 1 (prog.map eE) ck]] ae3 (xsN prog s0 (cntN prog n.toNat s0)):=by
 refine Tz.intro c0Ok Tryz.func150 rfl rfl (by kernel_rfl) rfl ?_;intro y;refine wK<|sX rfl<|cRg<|oR 1 rfl<|rAl 1 rfl rfl<|rSt rfl<|rE 3<|wK<|sX rfl<|cRg<|oR 1 rfl<|rE 4<|CT<|QQ (κ:=Nat) (λk=>⟨slotsF [(0,.v y),(1,.dp 35 0 (stL s0.pc s0.r s0.mem s0.halt)),(2,.dp 1 0 ([vI n])),(3,.dp 1 0 ([.sl 1 (prog.map eE) ck])),(5,.ptr 0 0),(6,vN k)],heapF [(0,.box (stL (stN prog s0 k).pc (stN prog s0 k).r (stN prog s0 k).mem (stN prog s0 k).halt))],1⟩) (λk=>xsN prog s0 k) (λk=>k<=cntN prog n.toNat s0) (λk=>cntN prog n.toNat s0-k) 0 (λs=>match s with|0=>1|s=>s) (Weak.of_lists (λs=>match s with|0=>1|s=>s) wT wH rfl) rfl (rfl) (aE _) ?_;intro k hk;have hkc:k<=cntN prog n.toNat s0:=hk;have hcl:=acO prog n.toNat s0;have hkB:k<=10000:=by omega
 refine wK<|wK<|sX rfl<|cRg<|oR 2 rfl<|rV (vB (decide ((k:Int)<n))) rfl<|oR 1 rfl<|gN rfl<|gS rfl id<|gBS (x:=vB (((stN prog s0 k).halt)==0)) rfl id rfl<|cU rfl rfl rfl (λh=>h)<|rE 9 ?_;refine Fa (v:=cR (decide ((k:Int)<n)) (((stN prog s0 k).halt)==0) false) rfl (λh1=>?_) (λh1=>?_)
 ·have hk1:k<cntN prog n.toNat s0:=aeF hkc (by have:=of_decide_eq_true (ab0 h1).1;omega) (mW (ab0 h1).2);refine sX rfl<|mH<|wK<|CT<|wK<|sX rfl<|cRg<|oR 2 rfl<|rCi rfl (aeU prog (stN prog s0 k) ck hp omT (aeL hs k))<|oR 3 rfl<|rAl 15 rfl rfl<|rAl 16 rfl rfl<|rSt rfl<|rSt rfl<|rE 19<|wK ?_;refine sX rfl<|cRg<|oR 1 rfl<|rSt rfl<|rE 21<|wK<|QR rfl 3 rfl rfl rfl<|oR 3 rfl<|rE 24 ?_;refine⟨(Ig prog (stN prog s0 k)),_,⟨slotsF [(0,.v y),(1,.dp 35 0 (stL s0.pc s0.r s0.mem s0.halt)),(2,.dp 1 0 ([vI n])),(3,.dp 1 0 ([.sl 1 (prog.map eE) ck])),(6,vN k),(5,.ptr 0 0),(27,.v y),(28,.agg (stL ((Ig prog (stN prog s0 k)).1).pc ((Ig prog (stN prog s0 k)).1).r ((Ig prog (stN prog s0 k)).1).mem ((Ig prog (stN prog s0 k)).1).halt)),(29,.agg (spL ((Ig prog (stN prog s0 k)).2)))],heapF [(0,.box (stL (stN prog s0 (k+1)).pc (stN prog s0 (k+1)).r (stN prog s0 (k+1)).mem (stN prog s0 (k+1)).halt))],1⟩,λs=>match s with|0=>0|s=>s,Weak.of_lists _ wT wH rfl,rfl,rfl,rfl,rfl,rfl,rfl,(by rw[aeM];exact aeT hk1),λyb1=>?_⟩;refine oR 1 rfl<|rE 26 ?_;refine Fa (v:= !yb1) rfl (λh2=>?_) (λh2=>?_)
  ·refine sX rfl<|rL ?_;intro hs;rw[h2]at hs;cases hs
  ·refine sX rfl<|mH<|sX rfl<|cRg<|oR 1 rfl ?_;have b1:k+1<=10001:=aF hkB (aC 1);refine rW (vN (k+1)) rfl (okI (bJ b1 rfl))<|oR 1 rfl<|rE 29 ?_;refine⟨h2,k+1,λs=>s,Weak.of_lists _ wT wH rfl,rfl,(aeM prog s0 k).symm,hk1,(by show cntN prog n.toNat s0-(k+1)<cntN prog n.toNat s0-k;omega)⟩
 ·have hke:k=cntN prog n.toNat s0:=ae4 hkc λq=>ad3 h1 ⟨nG omT,by simpa using q.2⟩;refine sX rfl<|Je ?_;intro _;rw[hke]
def abV(m:ByteArray):St:=⟨0,λ_=>0,sW m,0⟩
def adB(m:ByteArray):(abV m).ok:=⟨aE _,λ_=>aE _,by show(sW m).size<=256;rw[EW];exact(adI _)⟩
def ae6(prog:List Nat)(s0:St)(n:Int)(ck:Bool)(hp:∀x∈prog,x<=4294967295)(hl:prog.length<=1000)(hs:s0.ok):cA C0 128 [.sl 1 (prog.map eE) ck,stA s0,vI n] (.clo 150 [] [.dp 35 0 (stL s0.pc s0.r s0.mem s0.halt),.dp 1 0 [vI n],.dp 1 0 [.sl 1 (prog.map eE) ck]]):=by
 refine cA.intro c0Ok Tryz.func128 rfl rfl (by kernel_rfl) rfl<|qS 0 rfl<|rV (.clo 150 [] [.ptr 1 0,.ptr 2 0,.ptr 0 0]) rfl<|qRF 0 rfl ?_;exact dF rfl tvT rfl rfl
def ae7(prog:List Nat)(m:ByteArray)(n:Int)(ck:Bool)(hp:∀x∈prog,x<=4294967295)(hl:prog.length<=1000):cA C0 90 [.sl 1 (prog.map eE) ck,.v (.string m),vI n] (.tup [stA (ab8 (abV m) (xsN prog (abV m) (cntN prog (min n 10000).toNat (abV m)))),.sl 9 (((xsN prog (abV m) (cntN prog (min n 10000).toNat (abV m))).map Prod.snd).map spL) false]):=by
 refine dc1 (cA.introR (C:=C1) (λd=>c1Ok.wd d) (λn=>c1Ok.at) Tryz.func90 rfl rfl (by kernel_rfl) rfl ?_);refine zV<|zI rfl<|cRg<|rAl 0 rfl rfl<|oR 1 rfl<|rE 2<|zV<|zI rfl<|cRg<|oR 2 rfl<|rCi rfl (afD _ m)<|rAl 5 rfl rfl<|rSt rfl<|rE 7<|zV<|zI rfl ?_;refine cRg<|rAl 7 rfl rfl<|rE 8<|zV<|zV<|zI rfl<|cRg<|oR 3 rfl<|rW (vI (min n 10000)) rfl (okI (XD n 10000))<|rCi rfl (ae6 prog (abV m) (min n 10000) ck hp hl (adB m))<|rE 13<|Lx ?_;refine QP (.mk _ (.refl _) ⟨⟨slotsF [(6,.ptr 0 0),(8,.ptr 1 0),(9,.ptr 2 0),(19,.clo 150 [] [.dp 35 0 (stL (abV m).pc (abV m).r (abV m).mem (abV m).halt),.dp 1 0 ([vI (min n 10000)]),.dp 1 0 ([.sl 1 (prog.map eE) ck])])],heapF [(0,.box (stL 0 (λ_=>0) (⟨#[]⟩:ByteArray) 0)),(1,.box (stL (abV m).pc (abV m).r (abV m).mem (abV m).halt)),(2,.box [.sl 0 ([]) true])],3⟩,λs=>match s with|0=>0|1=>5|2=>7|s=>s,Weak.of_lists _ wT wH rfl,rfl,?_⟩);refine .mk (St×Sp) 150 [.dp 35 0 (stL (abV m).pc (abV m).r (abV m).mem (abV m).halt),.dp 1 0 ([vI (min n 10000)]),.dp 1 0 ([.sl 1 (prog.map eE) ck])] (λx:St×Sp=>[stA x.1,spA x.2]) ae3 (xsN prog (abV m) (cntN prog (min n 10000).toNat (abV m))) (λ_=>True) 3 (λpre=>match pre with|[]=>heapF [(0,.box (stL 0 (λ_=>0) (⟨#[]⟩:ByteArray) 0)),(1,.box (stL (abV m).pc (abV m).r (abV m).mem (abV m).halt)),(2,.box [.sl 0 ([]) true])]|y_::l_=>heapF [(0,.box (stL 0 (λ_=>0) (⟨#[]⟩:ByteArray) 0)),(1,.box (stL (ab8 (abV m) (y_::l_)).pc (ab8 (abV m) (y_::l_)).r (ab8 (abV m) (y_::l_)).mem (ab8 (abV m) (y_::l_)).halt)),(2,.box [.osl 3 0 ((y_::l_).length) false]),(3,.arr (((y_::l_).map Prod.snd).map spL) 9)]) (λpre=>match pre with|[]=>3|_::_=>4) rfl rfl ⟨_,Tryz.func150,rfl,rfl⟩ (ae5 prog (abV m) (min n 10000) ck hp hl (adB m) omT) (λx S w β=>DE (show IJ [stA x.1,spA x.2]=some _ from rfl)) (λ_=>rfl) rfl rfl (λpre=>by cases pre<;>rfl) (Weak.of_lists (hp:=[]) (λs=>s) wT trivial rfl) ?_ ?_
 ·intro pre_ x hp_ hN_;rcases pre_ with _|⟨y_,l_⟩
  ·refine cSR<|rAl 3 rfl rfl<|rSt rfl<|rE 5<|cRg<|rAl 5 rfl rfl<|rSt rfl<|rE 7 ?_;refine⟨rfl,?_⟩;refine qV<|cSR<|oR 1 rfl<|rSt rfl<|rE 9<|cRg<|oR 2 rfl<|rV (.sl 9 ([[vU x.2.pc,vU x.2.next,vI x.2.rd,vU x.2.value,vU x.2.addr,vI x.2.size,vB x.2.store,vI x.2.halt,vI x.2.took]]) true) rfl<|rFx (x:=.osl 12 0 1 false) (h':=upd _ 12 (some (.arr (([x.2]).map spL) 9))) rfl rfl (La omT) (⟨rfl,by exact omT,by exact omT,trivial⟩)<|rSt rfl<|rE 14 ?_;exact⟨trivial,.mk _ (.refl _) ⟨λs=>match s with|3=>12|s=>s,rfl,Weak.of_lists (l:=[]) (hp:=[(0,.box (stL 0 (λ_=>0) (⟨#[]⟩:ByteArray) 0)),(1,.box (stL (ab8 (abV m) (x::[])).pc (ab8 (abV m) (x::[])).r (ab8 (abV m) (x::[])).mem (ab8 (abV m) (x::[])).halt)),(2,.box [.osl 3 0 ((x::[]).length) false]),(3,.arr (((x::[]).map Prod.snd).map spL) 9)]) (λs=>match s with|3=>12|s=>s) trivial wH rfl⟩⟩
  ·have hlen:(y_::l_).length<=10000:=by have h1:=hp_.length_le;rw[ac4,aQ]at h1;have h2:=acO prog (min n 10000).toNat (abV m);omega
   have hlq:(y_::l_).length=l_.length+1:=rfl;refine cSR<|rAl 4 rfl rfl<|rSt rfl<|rE 6<|cRg<|rAl 6 rfl rfl<|rSt rfl<|rE 8 ?_;refine⟨rfl,?_⟩;refine qV<|cSR<|oR 1 rfl<|rSt rfl<|rE 10<|cRg<|oR 2 rfl<|rV (.sl 9 ([[vU x.2.pc,vU x.2.next,vI x.2.rd,vU x.2.value,vU x.2.addr,vI x.2.size,vB x.2.store,vI x.2.halt,vI x.2.took]]) true) rfl<|rFx (x:=.osl 13 0 ((y_::l_).length+1) false) (h':=upd (upd _ 3 none) 13 (some (.arr ((((y_::l_).map Prod.snd)++([x.2])).map spL) 9))) rfl rfl (jN spL ((y_::l_).map Prod.snd) ([x.2]) omT omT) (⟨by exact omT,by exact omT,trivial⟩)<|rSt rfl<|rE 15 ?_;exact⟨trivial,.mk _ (.refl _) ⟨λs=>match s with|3=>13|s=>s,rfl,Weak.of_lists (l:=[]) (hp:=[(0,.box (stL 0 (λ_=>0) (⟨#[]⟩:ByteArray) 0)),(1,.box (stL (ab8 (abV m) (y_::(l_++[x]))).pc (ab8 (abV m) (y_::(l_++[x]))).r (ab8 (abV m) (y_::(l_++[x]))).mem (ab8 (abV m) (y_::(l_++[x]))).halt)),(2,.box [.osl 3 0 ((y_::(l_++[x])).length) false]),(3,.arr (((y_::(l_++[x])).map Prod.snd).map spL) 9)]) (λs=>match s with|3=>13|s=>s) trivial ⟨⟨rfl,rfl,rfl⟩,⟨rfl,(congrArg (λz:St=>some (Blk.box (stL z.pc z.r z.mem z.halt))) (aeG (abV m) (y_::l_) x).symm),rfl⟩,⟨rfl,(congrArg (λz:Nat=>some (Blk.box [AV.osl 13 0 z false])) (show(y_::l_).length+1=(y_::(l_++[x])).length by simp)),rfl⟩,⟨rfl,(congrArg (λz:List Sp=>some (Blk.arr (z.map spL) 9)) (show(y_::l_).map Prod.snd++[x.2]=(y_::(l_++[x])).map Prod.snd by simp)),rfl⟩,trivial⟩ rfl⟩⟩
 ·intro hN D;rcases hxs:xsN prog (abV m) (cntN prog (min n 10000).toNat (abV m))with _|⟨y_,l_⟩
  ·refine zV<|zI rfl<|Fu rfl rfl<|oR 2 rfl<|rSt rfl<|oR 1 rfl<|rE 7<|And.intro (by kernel_rfl)<|zI rfl<|rL ?_;exact⟨_,rfl,trivial,rfl,Sub.tup ⟨Sub.refl _,lP 9 false,trivial⟩⟩
  ·have hlen:(y_::l_).length<=10000:=by rw[<-hxs,ac4];have h2:=acO prog (min n 10000).toNat (abV m);omega
   have hlq:(y_::l_).length=l_.length+1:=rfl;refine zV<|zI rfl<|Fu rfl rfl<|oR 2 rfl<|rSt rfl<|oR 1 rfl<|rE 8<|And.intro (by kernel_rfl)<|zI rfl<|rL ?_;exact⟨_,rfl,⟨tvT,(by show 0+((y_::l_).length)<=(((y_::l_).map Prod.snd).map spL).length;exact omT),trivial⟩,rfl,Sub.tup ⟨Sub.refl _,(by show Sub (.sl 9 (List.take (y_::l_).length (List.drop 0 (((y_::l_).map Prod.snd).map spL))) false) (.sl 9 (((y_::l_).map Prod.snd).map spL) false);rw[cB,aM (by simp)];exact Sub.refl _),trivial⟩⟩
structure EvnT where
 pc:Nat
 addr:Nat
 size:Int
 took:Int
 loaded:Nat
 halt:Int
abbrev evL(e:EvnT):List AV:=[.v (.int .u32 (e.pc:Int)),.v (.int .u32 (e.addr:Int)),.v (.int .i64 e.size),.v (.int .i64 e.took),.v (.int .u32 (e.loaded:Int)),.v (.int .i64 e.halt)]
def evP(ld:Bool)(x:Sp):EvnT:=⟨x.pc,x.addr,x.size,x.took,if ld=true∧0<x.size∧x.store=false then x.value else 0,x.halt⟩
def adR(a b:EvnT):Bool:=((a.pc:Int)==b.pc)&&(((a.addr:Int)==b.addr)&&((a.size==b.size)&&((a.took==b.took)&&(((a.loaded:Int)==b.loaded)&&((a.halt==b.halt)&&true)))))
def acF(a b:EvnT):adR a b=true↔a=b:=by
 obtain⟨a1,a2,a3,a4,a5,a6⟩:=a;obtain⟨b1,b2,b3,b4,b5,b6⟩:=b;simp[adR];omega
def sameP:List EvnT->List EvnT->Nat
 |a::l,b::m=>if adR a b=true then sameP l m+1 else 0
 |_,_=>0
theorem abZ:∀l m,sameP l m<=l.length∧sameP l m<=m.length
 |[],m=>by simp[sameP]
 |a::l,[]=>by simp[sameP]
 |a::l,b::m=>by
  have:=abZ l m;simp only[sameP];split<;>simp<;>omega
abbrev ev0:EvnT:=⟨0,0,0,0,0,0⟩
def aeK{ld:Bool}{x:Sp}(h:cR (cR ld (decide (x.size>0)) false) (!x.store) false=true):(⟨x.pc,x.addr,x.size,x.took,x.value,x.halt⟩:EvnT)=evP ld x:=by
 have:ld=true∧0<x.size∧x.store=false:=by
  cases ld<;>cases hs:x.store<;>by_cases hz:0<x.size<;>simp[cR,hs,hz]at h⊢
 unfold evP;rw[if_pos this]
def ae0{ld:Bool}{x:Sp}(h:cR (cR ld (decide (x.size>0)) false) (!x.store) false=false):(⟨x.pc,x.addr,x.size,x.took,0,x.halt⟩:EvnT)=evP ld x:=by
 have: ¬(ld=true∧0<x.size∧x.store=false):=by
  rintro⟨rfl,h2,h3⟩;simp[cR,h2,h3]at h
 unfold evP;rw[if_neg this]
def ac2{l:List Sp}{ld:Bool}{k:Nat}{x:Sp}{e:EvnT}(hx:l[k]?=some x)(he:e=evP ld x):(l.take k).map (evP ld)++[e]=(l.take (k+1)).map (evP ld):=by
 rw[bV,hx,he];simp
def adS(l:List EvnT)(k:Nat):∃y,k<l.length->l[k]?=some y:=by
 cases h:l[k]? with
 |none=>exact⟨ev0,λhk=>by rw[aA hk]at h;cases h⟩
 |some y=>exact⟨y,λ_=>rfl⟩
def adT{a b:List EvnT}{k:Nat}{x y:EvnT}(hx:a[k]?=some x)(hy:b[k]?=some y)(he:adR x y=true)(h:sameP a b=k+sameP (a.drop k) (b.drop k)):sameP a b=k+1+sameP (a.drop (k+1)) (b.drop (k+1)):=by
 obtain⟨h1,h1'⟩:=DS.1 hx;obtain⟨h2,h2'⟩:=DS.1 hy;rw[h,bR h1,bR h2,h1',h2'];show k+(if adR x y=true then sameP _ _+1 else 0)=_;rw[if_pos he];omega
def adU{a b:List EvnT}{k:Nat}{x y:EvnT}(hx:k<a.length->a[k]?=some x)(hy:k<b.length->b[k]?=some y)(h: ¬((k<a.length∧k<b.length)∧adR x y=true)):sameP (a.drop k) (b.drop k)=0:=by
 by_cases h1:k<a.length
 ·by_cases h2:k<b.length
  ·obtain⟨q1,q2⟩:=DS.1 (hx h1);obtain⟨q3,q4⟩:=DS.1 (hy h2);rw[bR h1,bR h2,q2,q4];exact if_neg λq=>h ⟨⟨h1,h2⟩,q⟩
  ·rw[cC (l:=b) omT];cases a.drop k<;>rfl
 ·rw[cC (l:=a) omT];cases b.drop k<;>rfl
def ab2(prog:List Nat)(m:ByteArray)(n:Int)(ld:Bool):List EvnT:=((xsN prog (abV m) (cntN prog (min n 10000).toNat (abV m))).map Prod.snd).map (evP ld)
def acB(prog:List Nat)(m:ByteArray)(n:Int)(ld:Bool):(ab2 prog m n ld).length<=10000:=by
 unfold ab2;rw[aG,aG,ac4];have:=acO prog (min n 10000).toNat (abV m);omega
def abY(c:Cf)(n:Int):Int:=(cD c).width*min (max n 0) 2000+(cD c).rob
def afF{x:Int}(h1: -9223372036854775808<=x)(h2:x<9223372036854775808):wrap64 x=x:=by unfold wrap64;omega
def ac3(n lo hi:Int)(h:lo<=hi):lo<=bW n lo hi∧bW n lo hi<=hi:=by unfold bW;(repeat' split)<;>omega
def adV(c:Cf)(n:Int):0<=(cD c).width*min (max n 0) 2000∧(cD c).width*min (max n 0) 2000<=4000:=by
 have h:1<=(cD c).width∧(cD c).width<=2:=ac3 c.width 1 2 (by decide);have h2:(cD c).width=1∨(cD c).width=2:=by omega
 rcases h2 with h2|h2<;>rw[h2]<;>omega
def adW(c:Cf):2<=(cD c).rob∧(cD c).rob<=8:=ac3 c.rob 2 8 (by decide)
def acS(A B:List EvnT)(far:Int)(p q:Nat):Bool:=
 if p≠q then false else if((sameP A B:Nat):Int)>=far then true else(sameP A B==A.length)&&((sameP A B==B.length)&&(decide (0<sameP A B)&&((A[sameP A B-1]?).getD ev0).halt != 0))
def adX{a b:Bool}:cR a b false=(a&&b):=by cases a<;>rfl
def dOf(l:List Sp)(ld:Bool)(hl:l.length<=10000):cA C0 91 [.sl 9 (l.map spL) false,vB ld] (.sl 6 ((l.map (evP ld)).map evL) false):=by
 refine cA.intro c0Ok Tryz.func91 rfl rfl (by kernel_rfl) rfl<|qS 0 rfl<|rW (vN l.length) rfl (bT spL l)<|rFx (x:=.osl 3 0 0 false) (h':=upd _ 3 (some (.arr (([]:List EvnT).map evL) 6))) rfl rfl (rfl) (⟨by decide,Fj.2 omT,by show((l.length:Nat):Int)<=1000000;omega⟩) ?_;refine qR 0 rfl<|rW (vN l.length) rfl (bT spL l)<|qRC 0 rfl<|jX (κ:=Nat) (λk=>⟨slotsF [(1,vB ld),(4,.sl 0 ([]) true),(12,.sl 9 (l.map spL) false),(13,vN l.length),(14,vN k),(5,.osl 8 0 (((l.take k).map (evP ld)).length) false)],heapF [(8,.arr (((l.take k).map (evP ld)).map evL) 6)],9⟩) (λk=>k<=l.length) (λk=>l.length-k) 0 (λi=>match i with|8=>3|i=>i) (Weak.of_lists (λi=>match i with|8=>3|i=>i) ⟨⟨rfl,rfl⟩,⟨rfl,rfl⟩,⟨rfl,rfl⟩,⟨rfl,rfl⟩,⟨rfl,rfl⟩,⟨(show AV.osl 3 0 (0) false=AV.osl 3 0 ((l.take 0).map (evP ld)).length false from by rw[<-(show([]:List EvnT)=(l.take 0).map (evP ld)from rfl)];first|done|rfl),rfl⟩,trivial⟩ ⟨⟨rfl,(congrArg (λz:List EvnT=>some (Blk.arr (z.map evL) 6)) (show([]:List EvnT)=(l.take 0).map (evP ld)from rfl)),rfl⟩,trivial⟩ rfl) (aE _) ?_;intro k hk;have hk_:=hk;have hnn:k<=l.length:=hk_;have hkB:k<=10000:=by omega
 have habk:((l.take k).map (evP ld)).length<=10000:=(by rw[aG,aL];omega);refine qS 0 rfl<|rW (vB (decide (k<l.length))) rfl (okB (ltN _ _)) ?_;refine qRC 0 rfl<|aS rfl (λh1=>?_) (λh1=>?_)
 ·have h1p:=of_decide_eq_true h1;obtain⟨x,hx⟩:∃y_,l[k]?=some y_:=⟨_,aA omT⟩;refine qC 0 rfl<|rIx (spL x) (.dp 9 0 (spL x)) rfl rfl (fW hx) rfl<|qR 0 rfl<|rV (.agg [vU x.pc,vU x.addr,vI x.size,vI x.took,.v (.int .u32 0),vI x.halt]) rfl ?_;refine qR 0 rfl<|gS rfl id<|gBS (x:=vB (decide (x.size>0))) rfl id rfl<|cU rfl rfl rfl (λh=>h)<|qR 0 rfl<|gS rfl id<|gS rfl id<|cU rfl rfl rfl (λh=>h) ?_;refine qRC 0 rfl<|aS rfl (λh2=>?_) (λh2=>?_)
  ·refine qC 0 rfl<|rV (.sl 6 ([[vU x.pc,vU x.addr,vI x.size,vI x.took,vU x.value,vI x.halt]]) true) rfl<|rFx (x:=.osl 45 0 (((l.take k).map (evP ld)).length+1) false) (h':=upd (upd _ 8 none) 45 (some (.arr ((((l.take k).map (evP ld))++([(⟨x.pc,x.addr,x.size,x.took,x.value,x.halt⟩:EvnT)])).map evL) 6))) rfl rfl (jN evL ((l.take k).map (evP ld)) ([(⟨x.pc,x.addr,x.size,x.took,x.value,x.halt⟩:EvnT)]) omT omT) (⟨by exact omT,by exact omT,trivial⟩) ?_;have b1:k+1<=10001:=aF hkB (aC 1);refine qR 0 rfl<|rW (vN (k+1)) rfl (okI (bJ b1 rfl)) ?_;refine qRF 0 rfl<|⟨k+1,λi=>match i with|8=>45|i=>i,Weak.of_lists _ ⟨⟨rfl,rfl⟩,⟨rfl,rfl⟩,⟨rfl,rfl⟩,⟨rfl,rfl⟩,⟨rfl,rfl⟩,⟨(show AV.osl 45 0 (((l.take k).map (evP ld)).length+1) false=AV.osl 45 0 ((l.take (k+1)).map (evP ld)).length false from by rw[<-(show((l.take k).map (evP ld))++([(⟨x.pc,x.addr,x.size,x.took,x.value,x.halt⟩:EvnT)])=(l.take (k+1)).map (evP ld)from ac2 hx (aeK h2))];first|done|rfl|(congr 1<;>(first|exact omT|simp))),rfl⟩,trivial⟩ ⟨⟨rfl,(congrArg (λz:List EvnT=>some (Blk.arr (z.map evL) 6)) (show((l.take k).map (evP ld))++([(⟨x.pc,x.addr,x.size,x.took,x.value,x.halt⟩:EvnT)])=(l.take (k+1)).map (evP ld)from ac2 hx (aeK h2))),rfl⟩,trivial⟩ rfl,by omega,by show l.length-(k+1)<l.length-k;omega⟩
  ·refine qC 0 rfl<|rV (.sl 6 ([[vU x.pc,vU x.addr,vI x.size,vI x.took,.v (.int .u32 0),vI x.halt]]) true) rfl<|rFx (x:=.osl 41 0 (((l.take k).map (evP ld)).length+1) false) (h':=upd (upd _ 8 none) 41 (some (.arr ((((l.take k).map (evP ld))++([(⟨x.pc,x.addr,x.size,x.took,0,x.halt⟩:EvnT)])).map evL) 6))) rfl rfl (jN evL ((l.take k).map (evP ld)) ([(⟨x.pc,x.addr,x.size,x.took,0,x.halt⟩:EvnT)]) omT omT) (⟨by exact omT,by exact omT,trivial⟩) ?_;have b2:k+1<=10001:=aF hkB (aC 1);refine qR 0 rfl<|rW (vN (k+1)) rfl (okI (bJ b2 rfl)) ?_;refine qRF 0 rfl<|⟨k+1,λi=>match i with|8=>41|i=>i,Weak.of_lists _ ⟨⟨rfl,rfl⟩,⟨rfl,rfl⟩,⟨rfl,rfl⟩,⟨rfl,rfl⟩,⟨rfl,rfl⟩,⟨(show AV.osl 41 0 (((l.take k).map (evP ld)).length+1) false=AV.osl 41 0 ((l.take (k+1)).map (evP ld)).length false from by rw[<-(show((l.take k).map (evP ld))++([(⟨x.pc,x.addr,x.size,x.took,0,x.halt⟩:EvnT)])=(l.take (k+1)).map (evP ld)from ac2 hx (ae0 h2))];first|done|rfl|(congr 1<;>(first|exact omT|simp))),rfl⟩,trivial⟩ ⟨⟨rfl,(congrArg (λz:List EvnT=>some (Blk.arr (z.map evL) 6)) (show((l.take k).map (evP ld))++([(⟨x.pc,x.addr,x.size,x.took,0,x.halt⟩:EvnT)])=(l.take (k+1)).map (evP ld)from ac2 hx (ae0 h2))),rfl⟩,trivial⟩ rfl,by omega,by show l.length-(k+1)<l.length-k;omega⟩
 ·have h1p:=aD h1;refine qCF 0 rfl<|qXF 0 rfl ?_;have hke:k=l.length:=by omega
  refine dF rfl (by show 0+(((l.take k).map (evP ld)).length)<=(((l.take k).map (evP ld)).map evL).length;exact omT) rfl ?_;show AV.sl 6 (List.take ((l.take k).map (evP ld)).length (List.drop 0 (((l.take k).map (evP ld)).map evL))) false=_;rw[kG evL _ (aC _),hke,cM]
def aeS{a b:Bool}(h:a=true)(k:b=true):cR a b false=true:=by rw[h,k];rfl
def ae1(a b:List EvnT)(ha:a.length<=10000)(hb:b.length<=10000):cA C0 38 [.sl 6 (a.map evL) false,.sl 6 (b.map evL) false] (vN (sameP a b)):=by
 refine cA.intro c0Ok Tryz.func38 rfl rfl (by kernel_rfl) rfl<|qSC 0 rfl<|jX (κ:=Nat) (λk=>⟨slotsF [(0,.sl 6 (a.map evL) false),(1,.sl 6 (b.map evL) false),(5,vN k)],heapF [],2⟩) (λk=>k<=a.length∧k<=b.length∧sameP a b=k+sameP (a.drop k) (b.drop k)) (λk=>a.length-k) 0 (λs=>s) (Weak.of_lists (λs=>s) wT trivial rfl) (⟨aE _,aE _,(bF _).symm⟩) ?_;intro k hk;have hkB:k<=10000:=by omega
 obtain⟨x1,hx1⟩:=adS a k;obtain⟨x2,hx2⟩:=adS b k;refine qSC 0 rfl<|cRg<|oR 2 rfl<|rW (vN a.length) rfl (bT evL a)<|rW (vB (decide (k<a.length))) rfl (okB (ltN _ _))<|oR 1 rfl<|gN rfl<|gN rfl<|gBS (x:=vN b.length) rfl id (bT evL b)<|gBS (x:=vB (decide (k<b.length))) rfl hsT (okB (ltN _ _))<|cU rfl rfl rfl (λh=>h)<|oR 1 rfl<|gN rfl<|gN rfl<|Hp (evL x1) (x:=.dp 6 0 (evL x1)) (g:=cR (decide (k<a.length)) (decide (k<b.length)) false) rfl rfl rfl rfl hsT rfl rfl (λhg=>⟨aH _,fW (hx1 (of_decide_eq_true (ab0 hg).1))⟩) rfl ?_;refine gS rfl id<|gN rfl<|gN rfl<|Hp (evL x2) (x:=.dp 6 0 (evL x2)) (g:=cR (decide (k<a.length)) (decide (k<b.length)) false) rfl rfl rfl rfl hsT rfl rfl (λhg=>⟨aH _,fW (hx2 (of_decide_eq_true (ab0 hg).2))⟩) rfl<|gS rfl id<|gBS (x:=vB (adR x1 x2)) rfl hsT rfl<|cU rfl rfl rfl (λh=>h)<|rE 23 ?_;refine qXC 0 rfl<|aS rfl (λh1=>?_) (λh1=>?_)
 ·skip
  have b1:k+1<=10001:=aF hkB (aC 1);refine qC 0 rfl<|rW (vN (k+1)) rfl (okI (bJ b1 rfl)) ?_;refine qRF 0 rfl<|⟨k+1,λs=>s,Weak.of_lists _ wT trivial rfl,by have q:=ab0 h1;have q2:=ab0 q.1;have q3:=of_decide_eq_true q2.1;have q4:=of_decide_eq_true q2.2;exact⟨by omega,by omega,adT (hx1 q3) (hx2 q4) q.2 hk.2.2⟩,by have q:=ab0 h1;have q2:=ab0 q.1;have q3:=of_decide_eq_true q2.1;have q4:=of_decide_eq_true q2.2;show a.length-(k+1)<a.length-k;omega⟩
 ·refine qCF 0 rfl<|qXF 0 rfl ?_;exact fT rfl (congrArg (λn:Nat=>AV.v (.int .i64 (n:Int))) (by rw[hk.2.2,adU hx1 hx2 (λq=>ad3 h1 ⟨aeS (nG q.1.1) (nG q.1.2),q.2⟩)];rfl))
def ae2(prog:List Nat)(m:ByteArray)(n:Int)(ld:Bool)(hp:∀x∈prog,x<=4294967295)(hl:prog.length<=1000):cA C0 37 [.sl 1 (prog.map eE) false,.v (.string m),vI n,vB ld] (.sl 6 ((ab2 prog m n ld).map evL) false):=by
 refine cA.intro c0Ok Tryz.func37 rfl rfl (by kernel_rfl) rfl ?_;have hlx:((xsN prog (abV m) (cntN prog (min n 10000).toNat (abV m))).map Prod.snd).length<=10000:=by rw[aG,ac4];have:=acO prog (min n 10000).toNat (abV m);omega
 refine qS 0 rfl<|rCi rfl (ae7 prog m n false hp hl) ?_;refine qR 0 rfl<|rCi rfl (dOf ((xsN prog (abV m) (cntN prog (min n 10000).toNat (abV m))).map Prod.snd) ld hlx)<|qRF 0 rfl ?_;exact fT rfl rfl
def afE(c:Cf)(n:Int)(hc:c.ok):cA C0 36 [.agg (cfL c false false),vI n] (vI (abY c n)):=by
 refine cA.intro c0Ok Tryz.func36 rfl rfl (by kernel_rfl) rfl ?_;have hm:=adV c n;have hr:=adW c;refine qS 0 rfl<|rCi rfl (Ie c false false hc)<|qR 0 rfl<|rW (vI (max n 0)) rfl (okI (ac7 n 0))<|rW (vI (min (max n 0) 2000)) rfl (okI (XD (max n 0) 2000)) ?_;refine rW (vI ((cD c).width*min (max n 0) 2000)) rfl (okI ((w64 _).trans (afF omT omT)))<|qR 0 rfl<|rW (vI (abY c n)) rfl (okI ((w64 _).trans (afF omT omT)))<|qRF 0 rfl ?_;exact fT rfl rfl
def aeC{A B:List EvnT}{y:EvnT}(hy:(0<sameP A B∧sameP A B<=A.length)->A[sameP A B-1]?=some y):((sameP A B==A.length)&&((sameP A B==B.length)&&(decide (0<sameP A B)&&((A[sameP A B-1]?).getD ev0).halt != 0)))=cR (cR (cR (sameP A B==A.length) (sameP A B==B.length) false) (decide (sameP A B>0)) false) (y.halt != 0) false:=by
 have h1:=(abZ A B).1;rw[adX,adX,adX];by_cases h:0<sameP A B
 ·rw[hy ⟨h,h1⟩];simp[nB]
 ·simp[h]
def adY(c:Cf)(prog:List Nat)(m w:ByteArray)(n:Int)(ld:Bool)(hc:c.ok)(hp:∀x∈prog,x<=4294967295)(hl:prog.length<=1000):cA C0 15 [.agg (cfL c false false),.sl 1 (prog.map eE) false,.v (.string m),.v (.string w),vI n,vB ld] (.tup [vN (sameP (ab2 prog m (abY c n) ld) (ab2 prog w (abY c n) ld)),vB (acS (ab2 prog m (abY c n) ld) (ab2 prog w (abY c n) ld) (abY c n) (sW m).size (sW w).size)]):=by
 refine cA.intro c0Ok Tryz.func15 rfl rfl (by kernel_rfl) rfl ?_;obtain⟨A,hAe⟩:∃A,A=ab2 prog m (abY c n) ld:=⟨_,rfl⟩;obtain⟨B,hBe⟩:∃B,B=ab2 prog w (abY c n) ld:=⟨_,rfl⟩;obtain⟨p,hpe⟩:∃p,p=(sW m).size:=⟨_,rfl⟩;obtain⟨q,hqe⟩:∃q,q=(sW w).size:=⟨_,rfl⟩;rw[<-hAe, <-hBe, <-hpe, <-hqe];have hAl:A.length<=10000:=by rw[hAe];exact acB ..
 have hBl:B.length<=10000:=by rw[hBe];exact acB ..
 have hsl:sameP A B<=10000:=aN (abZ A B).1 hAl;have hs1:=abZ A B;have hpz:p<=300:=by rw[hpe,EW];exact aN (adI _) (by decide)
 have hqz:q<=300:=by rw[hqe,EW];exact aN (adI _) (by decide)
 obtain⟨y,hy⟩:∃y,(0<sameP A B∧sameP A B<=A.length)->A[sameP A B-1]?=some y:=(adS A (sameP A B-1)).imp λy h k=>h omT;refine qS 0 rfl<|rCi rfl (afE c n hc)<|qR 0 rfl<|rCl (x:=.sl 6 (A.map evL) false) rfl (.inl rfl) ((by rw[hAe];exact ae2 prog m (abY c n) ld hp hl)) ?_;refine qR 0 rfl<|rCl (x:=.sl 6 (B.map evL) false) rfl (.inl rfl) ((by rw[hBe];exact ae2 prog w (abY c n) ld hp hl))<|qR 0 rfl<|rCi rfl (ae1 A B hAl hBl) ?_;refine qR 0 rfl<|rCi rfl (Uy m)<|rW (vN p) rfl (okI (by rw[hpe]))<|qR 0 rfl<|rCi rfl (Uy w)<|rW (vN q) rfl (okI (by rw[hqe]))<|rW (vB (p != q)) rfl (okB (neN _ _)) ?_;refine qRC 0 rfl<|aS rfl (λh1=>?_) (λh1=>?_)
 ·have h1p:=xH h1;refine qCF 0 rfl ?_;have e:acS A B (abY c n) p q=false:=if_pos (by simpa using h1);rw[e];exact fT rfl rfl
 ·have h1p:=xI h1;refine qC 0 rfl<|rV (vB (decide (((sameP A B:Nat):Int)>=(abY c n)))) rfl ?_;refine qRC 0 rfl<|aS rfl (λh2=>?_) (λh2=>?_)
  ·have h2p:=of_decide_eq_true h2;refine qCF 0 rfl ?_;have e:acS A B (abY c n) p q=true:=(if_neg (by simpa using h1)).trans (if_pos (by simpa using h2));rw[e];exact fT rfl rfl
  ·have h2p:=aD h2;refine qC 0 rfl<|rW (vN A.length) rfl (bT evL A)<|rW (vB ((sameP A B)==A.length)) rfl (okB (eqN _ _))<|qR 0 rfl<|gBS (x:=vN B.length) rfl id (bT evL B)<|gBS (x:=vB ((sameP A B)==B.length)) rfl hsT (okB (eqN _ _))<|cU rfl rfl rfl (λh=>h)<|qRC 0 rfl<|cRg ?_;refine oR 3 rfl<|gN rfl<|gBS (x:=vB (decide ((sameP A B)>0))) rfl id (okB (gtN _ _))<|cU rfl rfl rfl (λh=>h)<|oR 1 rfl<|gN rfl<|gN rfl<|gBS (x:=vI (((sameP A B:Nat):Int)-1)) rfl id (okI ((w64 _).trans (afF omT omT))) ?_;refine Hp (evL y) (x:=.dp 6 0 (evL y)) (g:=cR (cR ((sameP A B)==A.length) ((sameP A B)==B.length) false) (decide ((sameP A B)>0)) false) rfl rfl rfl rfl hsT rfl rfl (λhg=>by have q:=ab0 hg;have q1:=of_decide_eq_true q.2;exact⟨by show(0:Int)<=((sameP A B:Nat):Int)-1;omega,by rw[bD,show(((sameP A B:Nat):Int)-1).toNat=sameP A B-1 by omega,hy omT];rfl⟩) rfl ?_;refine gS rfl id<|gS rfl id<|gBS (x:=vB (y.halt != 0)) rfl id rfl<|cU rfl rfl rfl (λh=>h)<|oR 2 rfl<|rE 61<|qXF 0 rfl ?_;have e:acS A B (abY c n) p q=cR (cR (cR (sameP A B==A.length) (sameP A B==B.length) false) (decide (sameP A B>0)) false) (y.halt != 0) false:=(if_neg (by simpa using h1)).trans ((if_neg (by simpa using h2)).trans (aeC hy));rw[e];exact fT rfl rfl
def aeD(c:Cf)(prog:List Nat)(m w:ByteArray)(n:Int)(ld:Bool)(hc:c.ok)(hp:∀x∈prog,x<=4294967295)(hl:prog.length<=1000):cA C0 14 [.agg (cfL c false false),.sl 1 (prog.map eE) false,.v (.string m),.v (.string w),vI n,vB ld] (.agg [vN (sameP (ab2 prog m (abY c n) ld) (ab2 prog w (abY c n) ld)),vB (acS (ab2 prog m (abY c n) ld) (ab2 prog w (abY c n) ld) (abY c n) (sW m).size (sW w).size),vI (xV (iH (gP c prog m) (Hs n)) (iH (gP c prog w) (Hs n)) 0)]):=by
 refine cA.intro c0Ok Tryz.func14 rfl rfl (by kernel_rfl) rfl ?_;have hrn:Hs n<=2000:=by unfold Hs;omega
 refine qS 0 rfl<|rCi rfl (adY c prog m w n ld hc hp hl)<|qR 0 rfl<|rCi rfl (Zj c prog m n hc hp hl) ?_;refine qRN 0 rfl<|rSx 22 (coL (pB (gP c prog m) (Hs n))) rfl rfl rfl<|qR 0 rfl<|rCi rfl (Zj c prog w n hc hp hl)<|qRN 0 rfl<|rSx 33 (coL (pB (gP c prog w) (Hs n))) rfl rfl rfl ?_;refine qR 0 rfl<|rCi rfl (Vc (iH (gP c prog m) (Hs n)) (iH (gP c prog w) (Hs n)) (by rw[Nv];exact hrn) (by rw[Nv];exact hrn) (acK (Sw c prog m hc hp) hrn) (acK (Sw c prog w hc hp) hrn))<|rV (.agg [vN (sameP (ab2 prog m (abY c n) ld) (ab2 prog w (abY c n) ld)),vB (acS (ab2 prog m (abY c n) ld) (ab2 prog w (abY c n) ld) (abY c n) (sW m).size (sW w).size),vI (xV (iH (gP c prog m) (Hs n)) (iH (gP c prog w) (Hs n)) 0)]) rfl<|qRF 0 rfl ?_;exact dF rfl tvT rfl rfl
def adN(a b:EvnT):adR a b=adR b a:=by
 rw[bX,acF,acF];exact eq_comm
def adO{k:Nat}(h:k<=2000):Hs (k:Int)=k:=by unfold Hs;omega
def afB:sameP (ab2 [1048691] ⟨#[]⟩ (abY cf0 4) true) (ab2 [1048691] ⟨#[]⟩ (abY cf0 4) true)=1∧acS (ab2 [1048691] ⟨#[]⟩ (abY cf0 4) true) (ab2 [1048691] ⟨#[]⟩ (abY cf0 4) true) (abY cf0 4) (sW ⟨#[]⟩).size (sW ⟨#[]⟩).size=true:=by
 decide+kernel
def aeR:cA C0 15 [.agg [vI 0,vI 0,vI 0,vI 0,vI 0,vI 0,vI 0,vI 0,.sl 0 [] true,vB false,.sl 0 [] true],.sl 1 [[vU 1048691]] true,.v (.string ⟨#[]⟩),.v (.string ⟨#[]⟩),vI 4,vB true] (.tup [vN 1,vB true]):=by
 have h:=adY cf0 [1048691] ⟨#[]⟩ ⟨#[]⟩ 4 true ⟨by simp[cf0],by simp[cf0],λx hx=>by cases hx⟩ (λx hx=>by rw[uO.1 hx];decide) (by decide);rw[afB.1,afB.2]at h;exact h.args ⟨Sub.agg ⟨Sub.refl _,Sub.refl _,Sub.refl _,Sub.refl _,Sub.refl _,Sub.refl _,Sub.refl _,Sub.refl _,lP 1 false,Sub.refl _,lP 1 false,trivial⟩,Sub.clip _ _ _,Sub.refl _,Sub.refl _,Sub.refl _,Sub.refl _,trivial⟩
def adP:cA C0 16 [] (vB true):=by
 refine cA.intro c0Ok Tryz.func16 rfl rfl (by kernel_rfl) rfl<|qS 0 rfl<|rV (.agg [vI 0,vI 0,vI 0,vI 0,vI 0,vI 0,vI 0,vI 0,.sl 0 ([]) true,vB false,.sl 0 ([]) true]) rfl<|rV (.sl 1 ([[.v (.int .u32 1048691)]]) true) rfl<|rCi rfl (aeR)<|qR 0 rfl<|rW (vB (1==1)) rfl (okB (eqN _ _)) ?_;refine qR 0 rfl<|cU rfl rfl rfl (λh=>h)<|qRF 0 rfl ?_;exact fT rfl rfl
def adQ(prog:List Nat)(m w:ByteArray)(hl:prog.length<=9223372036854775807)(hm:m.size<=9223372036854775807)(hw:w.size<=9223372036854775807):cA C0 13 [.sl 1 (prog.map eE) false,.v (.string m),.v (.string w)] (.tup [.sl 1 ((abX prog).map eE) false,.v (.string (abW m)),.v (.string (abW w))]):=by
 refine dc1 (cA.intro c1Ok Tryz.func13 rfl rfl (by kernel_rfl) rfl ?_);refine qSC 0 rfl<|cRg<|oR 2 rfl<|rW (vN prog.length) rfl (bT eE prog)<|rW (vN (min prog.length 64)) rfl (EK prog.length 64) ?_;refine nW (.sl 1 ((prog.take (min prog.length 64)).map eE) false) rfl (zB (wX eE prog (min prog.length 64))) slT ?_;refine oR 2 rfl<|rV (vN m.size) rfl<|rW (vN (min m.size 300)) rfl (EK m.size 300) ?_;refine nW (.v (.string (m.extract 0 (min m.size 300)))) rfl rfl (by refine⟨?_,?_,?_⟩<;>(first|exact aH _|decide|(apply Fj.2;exact omT))) ?_;refine oR 2 rfl<|rV (vN w.size) rfl<|rW (vN (min w.size 300)) rfl (EK w.size 300) ?_;refine nW (.v (.string (w.extract 0 (min w.size 300)))) rfl rfl (by refine⟨?_,?_,?_⟩<;>(first|exact aH _|decide|(apply Fj.2;exact omT))) ?_;refine oR 3 rfl<|rE 21<|qXF 0 rfl ?_;exact fT rfl rfl
end Go.Proofs.YtgleompefdogkaaGreatDoor
