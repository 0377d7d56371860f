/- Lemmas. -/
import Derived.Test.YtmbhlpgmfafmbaaGreatDoorS1
import Derived.Test.YtmbhlpgmfafmbaaGreatDoorS28
import Derived.Test.YtmbhlpgmfafmbaaGreatDoorS29
import Derived.Test.YtmbhlpgmfafmbaaGreatDoorS31
import Derived.Test.YtmbhlpgmfafmbaaGreatDoorS34
set_option linter.all false
namespace Go.Proofs.YtmbhlpgmfafmbaaGreatDoor
open Go.Proofs.Tryz
set_option maxRecDepth 100000
set_option maxHeartbeats 4000000
open Go.RowKit
def E7(s:St):Value:=.agg ((cx s.K s.r s.mem s.halt).map p7).toArray
def zv(x:Sp):Value:=.agg ((a3 x).map p7).toArray
def wx(x:St×Sp):Array Value:= #[E7 x.1,zv x.2]
def Sg{r}(h:∀k,r k<=4294967295){v}(a:v<=4294967295)(n):∀k,gk r n v k<=4294967295:=by
 intro k;unfold gk;split
 ·exact a
 exact h k
def Ml{m}{a}{b}(h:a+b.size<=m.size):(DD m a b).size=m.size:=by
 show(DD m a b).data.size=m.data.size;have h':a+b.data.size<=m.data.size:=h;simp only[DD,kP,aU,aM,bD,cV];show min a m.data.size+b.data.size+(m.data.size-(a+b.data.size))=m.data.size;omega
def Bb{s:St}(h:s.ok)(b:Int)(a:Nat):(Gc s b a).1.ok:=⟨h.K,h.r,h.mem⟩
def Sh{s}(h:s.ok){i}{a b d}{tk}(g:i.k<=4294967295)(e:a<=4294967295)(f:b<=4294967295)(c:d<=4294967295):(IJ s i a b d tk).1.ok:=by
 unfold IJ;split
 ·exact⟨c,h.r,h.mem⟩
 exact⟨c,Sg h.r (aI (Rp i.op i.k s.K a b (bG g) (bG e) (bG f))) _,h.mem⟩
def Vh{prog}{s}(h:s.ok):(gE prog s).1.ok:=by
 unfold gE;split
 ·split
  ·split
   ·exact Bb h _ _
   have a:(rA prog s).k<=4294967295:=aI (IK (bg prog s.K)).2.2.2.2.2.2;unfold g6;split
   ·exact Bb h _ _
   split
   ·exact Bb h _ _
   split
   ·unfold sN;split
    ·rename_i b;split
     ·exact⟨uT _,h.r,by rw[Ml (by rw[mP];exact (sQ b).1)];exact h.mem⟩
     split
     ·exact⟨uT _,h.r,h.mem⟩
     exact⟨uT _,Sg h.r (MT _ _) _,h.mem⟩
    exact Bb h _ _
   unfold oN;split
   ·split
    ·exact Sh h a (h.r _) (h.r _) (aI (Ed _ _ _ _ _))
    exact Bb h _ _
   exact Sh h a (h.r _) (h.r _) (uT _)
  exact Bb h _ _
 exact h
def Wc{c:Operand->AV}{h:AH}{s b n v:Nat}{a x:Operand}{pc:Nat}{r:Nat->Nat}{m:ByteArray}{d:Int}(e:c a=.ptr b (1+n*1))(f:h b=some (.box (cx pc r m d)))(i:c x=vU v)(g:n<32):
  bc C1 c h s (.store 28 a x)=.fx True .any (an h b (some (.box (cx pc (gk r n v) m d)))):=Jm (s:=s) e f i g
def cr(prog:List Nat)(s:St):Nat->St
 |0=>s
 |k+1=>(gE prog (cr prog s k)).1
theorem Si{prog:List Nat}{s:St}(h:s.ok):∀k,(cr prog s k).ok
 |0=>h
 |k+1=>Vh (Si h k)
theorem Sj(prog:List Nat)(s:St):∀k,cr prog (gE prog s).1 k=cr prog s (k+1)
 |0=>rfl
 |k+1=>a1 (λz=>(gE prog z).1) (Sj prog s k)
def fc(prog:List Nat)(s:St)(k:Nat):List (St×Sp):=(List.range k).map λi=>gE prog (cr prog s i)
def KW(prog:List Nat)(s:St)(k:Nat):fc prog s k++[gE prog (cr prog s k)]=fc prog s (k+1):=by
 unfold fc;rw[gZ,dH];rfl
def qu(prog:List Nat)(s:St)(k:Nat):(fc prog s k).length=k:=by unfold fc;rw[aH,fV]
def Yg{prog:List Nat}{s:St}{k n:Nat}(h:k<=n):fc prog s k <+: fc prog s n:=by
 have e:fc prog s k=(fc prog s n).take k:=by unfold fc;rw[<-eO,List.take_range,lu h]
 rw[e];exact List.take_prefix _ _
def cv(prog:List Nat):Nat->St->Nat
 |0,_=>0
 |n+1,s=>if s.halt=0 then cv prog n (gE prog s).1+1 else 0
theorem AB(prog:List Nat):∀n s,cv prog n s<=n
 |0,_=>aC 0
 |n+1,s=>by
  have:=AB prog n (gE prog s).1;unfold cv;split<;>omega
theorem Hd{prog:List Nat}:∀{n:Nat} {s:St} {k:Nat},k<cv prog n s->(cr prog s k).halt=0
 |0,s,k,h=>absurd h (dG k)
 | n+1,s,k,h=>by
  unfold cv at h;split at h
  ·rename_i a
   cases k with
   |zero=>exact a
   |succ k=>rw[<-Sj];exact Hd (n:=n) ad
  ·omega
theorem Dj{prog:List Nat}:∀{n:Nat} {s:St},cv prog n s<n->(cr prog s (cv prog n s)).halt≠0
 |0,s,h=>absurd h (dG _)
 | n+1,s,h=>by
  unfold cv at h⊢;split at h
  ·rename_i a;rw[aa a, <-Sj];exact Dj ad
  ·rename_i a;rw[dZ a];exact a
def Vi{prog:List Nat}{n:Nat}{s:St}{k:Nat}(h:k<=cv prog n s)(b:k<n)(a:(cr prog s k).halt=0):k<cv prog n s:=by
 rcases ew k (cv prog n s)with h3|h3
 ·exact h3
 have e:k=cv prog n s:=oT;exact absurd a (e ▸ Dj ad)
def xa{prog:List Nat}{n:Nat}{s:St}{k:Nat}(h:k<=cv prog n s)(a: ¬(k<n∧(cr prog s k).halt=0)):k=cv prog n s:=by
 rcases ew k (cv prog n s)with h3|h3
 ·exact absurd ⟨ei h3 (AB ..),Hd h3⟩ a
 omega
def vD{a b:Bool}(h:cE a b false=true):a=true∧b=true:=by cases a<;>cases b<;>simp[cE]at h⊢
def Sk{a b:Bool}(h:cE a b false=false): ¬(a=true∧b=true):=by cases a<;>cases b<;>simp[cE]at h⊢
def hD(s:St)(l:List (St×Sp)):St:=(l.getLast?.map (·.1)).getD s
def NT(s:St)(l:List (St×Sp))(x:St×Sp):hD s (l++[x])=x.1:=by unfold hD;rw[List.getLast?_concat];rfl
def Jj(prog:List Nat)(s:St)(k:Nat):hD s (fc prog s k)=cr prog s k:=by
 cases k with
 |zero=>rfl
 |succ k=>rw[<-KW,NT];rfl
def Mm(s:St)(a:Int)(b:s.ok):bI C0 41 [i_ s,vI a] (hY (Gc s a 0)):=by
 apply dx func41 rfl;apply zV (.agg [vU s.K,vU s.K,vI 0,zU,zU,vI 0,.v (.bool false),vI a,vI 0]);exact pO rfl rfl<|oR 2 rfl<|a4 rfl<|a4 rfl<|rE 18<|And.intro (by kernel_rfl)<|cm 0 rfl (qY rfl trivial rfl rfl)
def Sm(s:St)(i:SI)(a b:Nat)(d:s.ok)(l:i.k<=4294967295)(k:a<=4294967295)(h:b<=4294967295)(j:0<=wr i)(m:wr i<32):bI C0 45 [i_ s,hV i,vU a,vU b] (hY (sN s i a b)):=by
 apply dx func45 rfl;refine zR<|zV (vU (gC i a))<|zC (Gd i) ?_;refine ba rfl (pS i)<|zW _ (ar (b8 _ _))<|zV (vI (s.mem.size:Int))<|zC (GY _ _ _ (oH d.mem) (bG (Ay i a))) ?_;refine zB rfl (λc=>?_) (λc=>?_)
 ·skip
  refine zB rfl (λf=>?_) (λf=>?_)
  ·apply zC (Mm s (5) d);exact pO rfl rfl<|oR 2 rfl<|a4 rfl<|a4 rfl<|rE 43<|And.intro (by kernel_rfl)<|cm 0 rfl (fT rfl (by unfold sN;rw[dZ (sU c),aa (sU f)];rfl))
  apply zC (Mm s (4) d);exact pO rfl rfl<|oR 2 rfl<|a4 rfl<|a4 rfl<|rE 42<|And.intro (by kernel_rfl)<|cm 0 rfl (fT rfl (by unfold sN;rw[dZ (sU c),dZ (sU f)];rfl))
 refine zR<|zV (vU (bz s.K))<|zC (Da i)<|zV (.agg [vU s.K,vU (bz s.K),vI (wr i),zU,vU (gC i a),vN (bP i.op),.v (.bool ((am i.op)==4)),vI 0,vI 0]) ?_;refine zB rfl (λe=>?_) (λe=>?_)
 ·refine zC (Nv b (bP i.op) (bG h) (lQ i.op))<|zC (uy _ (by rw[mP];exact lQ i.op))<|zC (Ec _ _ _ (by rw[mP];simpa using c) d.mem (Ay i a)) ?_;exact pO rfl rfl<|oR 2 rfl<|a4 rfl<|a4 rfl<|rE 70<|And.intro (by kernel_rfl)<|cm 0 rfl (fT rfl (by unfold sN;rw[aa (sU c),aa (sU e)];rfl))
 apply zV (.v (.bool ((wr i) != 0)));refine zB rfl (λg=>?_) (λg=>?_)
 ·refine zC (yg _ _ _ (sU c) d.mem (Ay i a))<|zC (va _ _ (UJ d.mem _ _))<|nW (.ptr 0 (1+(wr i).toNat*1)) rfl rfl ad ?_;exact Ow (h':=an _ 0 (some (.box (cx s.K (gk s.r ((wr i).toNat) (hW i.op (Cv s.mem (gC i a) (bP i.op)))) s.mem s.halt)))) rfl rfl (Wc (n:=(wr i).toNat) (v:=hW i.op (Cv s.mem (gC i a) (bP i.op))) (r:=s.r) rfl rfl rfl ad) (trivial)<|dm 0 rfl<|pO rfl rfl<|oR 2 rfl<|a4 rfl<|a4 rfl<|rE 71<|And.intro (by kernel_rfl)<|cm 0 rfl (fT rfl (by unfold sN;rw[aa (sU c),dZ (sU e),dZ (sU g)];rfl))
 exact pO rfl rfl<|oR 2 rfl<|a4 rfl<|a4 rfl<|rE 48<|And.intro (by kernel_rfl)<|cm 0 rfl (fT rfl (by unfold sN;rw[aa (sU c),dZ (sU e),aa (sU g)];rfl))
def Yh(s:St)(i:SI)(a b:Nat)(g:s.ok)(j:i.k<=4294967295)(e:a<=4294967295)(f:b<=4294967295)(n:0<=wr i)(o:wr i<32):bI C0 46 [i_ s,hV i,vU a,vU b] (hY (oN s i a b)):=by
 apply dx func46 rfl;refine zR<|zV (vU (bz s.K))<|zC (Da i)<|zV (.agg [vU s.K,vU (bz s.K),vI (wr i),zU,zU,vI 0,.v (.bool false),vI 0,vI 0]) ?_;refine zC (pS i)<|bu (ar (b8 _ _)) (λc=>?_) (λc=>?_)
 ·apply zC (LW i _ _ _ (bG j) (bG g.K) (bG e) (bG f));refine zB rfl (λh=>?_) (λh=>?_)
  ·apply zC (Mm s (3) g);exact fT rfl (by unfold oN IJ;rw[aa (sU c),dZ (sU h)];rfl)
  apply zV (.v (.bool ((wr i) != 0)));refine zB rfl (λk=>?_) (λk=>?_)
  ·refine zC (Nu i _ _ _ (bG j) (bG g.K) (bG e) (bG f))<|nW (.ptr 0 (1+(wr i).toNat*1)) rfl rfl ad<|Ow (h':=an _ 0 (some (.box (cx s.K (gk s.r ((wr i).toNat) (BF i.op i.k s.K a b)) s.mem s.halt)))) rfl rfl (Wc (n:=(wr i).toNat) (v:=BF i.op i.k s.K a b) (r:=s.r) rfl rfl rfl ad) (trivial) ?_;exact dm 0 rfl<|pO rfl rfl<|oR 2 rfl<|a4 rfl<|a4 rfl<|rE 60<|And.intro (by kernel_rfl)<|cm 0 rfl (fT rfl (by unfold oN IJ;rw[aa (sU c),aa (sU h),dZ (sU k)];rfl))
  exact pO rfl rfl<|oR 2 rfl<|a4 rfl<|a4 rfl<|rE 45<|And.intro (by kernel_rfl)<|cm 0 rfl (fT rfl (by unfold oN IJ;rw[aa (sU c),aa (sU h),aa (sU k)];rfl))
 refine bu (ar (b8 _ _)) (λd=>?_) (λd=>?_)
 ·refine zC (Xz _ _ _ (bG e) (bG f))<|zV (.v (.bool ((wr i) != 0))) ?_;refine zB rfl (λl=>?_) (λl=>?_)
  ·refine zC (Nu i _ _ _ (bG j) (bG g.K) (bG e) (bG f))<|nW (.ptr 0 (1+(wr i).toNat*1)) rfl rfl ad<|Ow (h':=an _ 0 (some (.box (cx s.K (gk s.r ((wr i).toNat) (BF i.op i.k s.K a b)) s.mem s.halt)))) rfl rfl (Wc (n:=(wr i).toNat) (v:=BF i.op i.k s.K a b) (r:=s.r) rfl rfl rfl ad) (trivial) ?_;exact dm 0 rfl<|pO rfl rfl<|oR 2 rfl<|a4 rfl<|a4 rfl<|rE 53<|And.intro (by kernel_rfl)<|cm 0 rfl (fT rfl (by unfold oN IJ;rw[dZ (sU c),dZ (sU l),aa (sU d)];rfl))
  exact pO rfl rfl<|oR 2 rfl<|a4 rfl<|a4 rfl<|rE 38<|And.intro (by kernel_rfl)<|cm 0 rfl (fT rfl (by unfold oN IJ;rw[dZ (sU c),aa (sU l),aa (sU d)];rfl))
 apply zV (.v (.bool ((wr i) != 0)));refine zB rfl (λm=>?_) (λm=>?_)
 ·refine zC (Nu i _ _ _ (bG j) (bG g.K) (bG e) (bG f))<|nW (.ptr 0 (1+(wr i).toNat*1)) rfl rfl ad<|Ow (h':=an _ 0 (some (.box (cx s.K (gk s.r ((wr i).toNat) (BF i.op i.k s.K a b)) s.mem s.halt)))) rfl rfl (Wc (n:=(wr i).toNat) (v:=BF i.op i.k s.K a b) (r:=s.r) rfl rfl rfl ad) (trivial) ?_;exact dm 0 rfl<|pO rfl rfl<|oR 2 rfl<|a4 rfl<|a4 rfl<|rE 46<|And.intro (by kernel_rfl)<|cm 0 rfl (fT rfl (by unfold oN IJ;rw[dZ (sU c),dZ (sU m),dZ (sU d)];rfl))
 exact pO rfl rfl<|oR 2 rfl<|a4 rfl<|a4 rfl<|rE 31<|And.intro (by kernel_rfl)<|cm 0 rfl (fT rfl (by unfold oN IJ;rw[dZ (sU c),aa (sU m),dZ (sU d)];rfl))
def Yi(prog:List Nat)(s:St)(i:Bool)(hp:∀x∈prog,x<=4294967295)(n:prog.length<=1000000)(a:s.ok):bI C0 21 [.X 1 (prog.map dU) i,i_ s] (hY (gE prog s)):=by
 apply dJ func21;have l:0<=(rA prog s).rd∧(rA prog s).rd<32∧0<=(rA prog s).j∧(rA prog s).j<32∧0<=(rA prog s).o∧(rA prog s).o<32∧(rA prog s).k<=4294967295:=by have:=IK (bg prog s.K);exact⟨this.1,this.2.1,this.2.2.1,this.2.2.2.1,this.2.2.2.2.1,this.2.2.2.2.2.1,aI this.2.2.2.2.2.2⟩
 have h:=ta (bg prog s.K);refine qS 0 rfl<|rV (.v (.bool (s.halt != 0))) rfl ?_;refine dm 0 rfl<|aV rfl (λc=>?_) (λc=>?_)
 ·exact qC 0 rfl<|rV (.agg [zU,zU,vI 0,zU,zU,vI 0,.v (.bool false),vI 0,vI 0]) rfl<|cd 0 rfl (fT rfl (by unfold gE g6;rw[dZ (sU c)];rfl))
 refine qC 0 rfl<|ba rfl (ND prog s.K i hp n a.K) ?_;refine dm 0 rfl<|aV rfl (λd=>?_) (λd=>?_)
 ·exact qC 0 rfl<|ba rfl (Mm s (1) a)<|cd 0 rfl (fT rfl (by unfold gE g6;rw[aa (sU c),dZ (sU d)];rfl))
 refine qC 0 rfl<|ba rfl (IV _ (bG (KE hp s.K)))<|qR 0 rfl<|rW _ rfl (ar (ee _ _)) ?_;refine dm 0 rfl<|aV rfl (λb=>?_) (λb=>?_)
 ·exact qC 0 rfl<|ba rfl (Mm s (2) a)<|cd 0 rfl (fT rfl (by unfold gE g6;rw[aa (sU c),aa (sU d),aa ((Dd _).1 b)];rfl))
 refine qC 0 rfl<|rV (.v (.bool (((rA prog s).op)==47))) rfl ?_;refine dm 0 rfl<|aV rfl (λf=>?_) (λf=>?_)
 ·exact qC 0 rfl<|ba rfl (Mm s (6) a)<|cd 0 rfl (fT rfl (by unfold gE g6;rw[aa (sU c),aa (sU d),dZ (λe=>by rw[(Dd _).2 e]at b;cases b),aa (sU f)];rfl))
 refine qC 0 rfl<|rV (.v (.bool (((rA prog s).op)==48))) rfl ?_;refine dm 0 rfl<|aV rfl (λj=>?_) (λj=>?_)
 ·exact qC 0 rfl<|ba rfl (Mm s (7) a)<|cd 0 rfl (fT rfl (by unfold gE g6;rw[aa (sU c),aa (sU d),dZ (λe=>by rw[(Dd _).2 e]at b;cases b),dZ (sU f),aa (sU j)];rfl))
 refine qC 0 rfl<|ba rfl (Fs (rA prog s))<|dm 0 rfl<|a6<|oR 2 rfl<|nW (.ptr 0 (1+((rA prog s).j).toNat*1)) rfl rfl ad<|rW _ rfl (ws s.K s.r s.mem s.halt (((rA prog s).j).toNat) ad)<|oR 2 rfl<|nW (.ptr 0 (1+((rA prog s).o).toNat*1)) rfl rfl ad<|rW _ rfl (ws s.K s.r s.mem s.halt (((rA prog s).o).toNat) ad)<|oR 2 rfl ?_;refine rE 50<|qX 0 rfl<|ba rfl (pS (rA prog s))<|qR 0 rfl<|rW _ rfl (ar (b8 _ _)) ?_;refine dm 0 rfl<|aV rfl (λg=>?_) (λg=>?_)
 ·skip
  refine j2 0 rfl<|aV rfl (λ_=>?_) (λm=>Bool.noConfusion (g.symm.trans m));exact qC 0 rfl<|ba rfl (Sm s (rA prog s) (s.r (rA prog s).j.toNat) (s.r (rA prog s).o.toNat) a l.2.2.2.2.2.2 (a.r _) (a.r _) h.1 h.2)<|cd 0 rfl (fT rfl (by unfold gE g6;rw[aa (sU c),aa (sU d),dZ (λe=>by rw[(Dd _).2 e]at b;cases b),dZ (sU f),dZ (sU j),aa (by simp at g;first|exact .inl g|exact .inr g)];rfl))
 refine qC 0 rfl<|rW _ rfl (ar (b8 _ _)) ?_;refine dm 0 rfl<|aV rfl (λk=>?_) (λk=>?_)
 ·exact qC 0 rfl<|ba rfl (Sm s (rA prog s) (s.r (rA prog s).j.toNat) (s.r (rA prog s).o.toNat) a l.2.2.2.2.2.2 (a.r _) (a.r _) h.1 h.2)<|cd 0 rfl (fT rfl (by unfold gE g6;rw[aa (sU c),aa (sU d),dZ (λe=>by rw[(Dd _).2 e]at b;cases b),dZ (sU f),dZ (sU j),aa (by simp at k;first|exact .inl k|exact .inr k)];rfl))
 exact qC 0 rfl<|ba rfl (Yh s (rA prog s) (s.r (rA prog s).j.toNat) (s.r (rA prog s).o.toNat) a l.2.2.2.2.2.2 (a.r _) (a.r _) h.1 h.2)<|cd 0 rfl (fT rfl (by unfold gE g6;rw[aa (sU c),aa (sU d),dZ (λe=>by rw[(Dd _).2 e]at b;cases b),dZ (sU f),dZ (sU j),dZ (by simp at g k;omega)];rfl))
def Bc(prog:List Nat)(s0:St)(n:Int)(a:Bool)(hp:∀x∈prog,x<=4294967295)(p:prog.length<=1000)(c:s0.ok)(r:n<=10000):RN C0 20 [.dp 35 0 (cx s0.K s0.r s0.mem s0.halt),.dp 1 0 [vI n],.dp 1 0 [.X 1 (prog.map dU) a]] wx (fc prog s0 (cv prog n.toNat s0)):=by
 apply RN.intro fw func20 rfl rfl (by kernel_rfl) rfl;intro y;refine rQ<|nU rfl<|a6<|oR 1 rfl<|c4 1 rfl rfl<|a4 rfl<|rE 3<|rQ<|nU rfl<|a6<|oR 1 rfl<|rE 4<|AA<|NH (κ:=Nat) (λk=>⟨be [(0,.v y),(1,.dp 35 0 (cx s0.K s0.r s0.mem s0.halt)),(2,.dp 1 0 ([vI n])),(3,.dp 1 0 ([.X 1 (prog.map dU) a])),(5,.ptr 0 0),(6,vN k)],ao [(0,.box (cx (cr prog s0 k).K (cr prog s0 k).r (cr prog s0 k).mem (cr prog s0 k).halt))],1⟩) (λk=>fc prog s0 k) (λk=>k<=cv prog n.toNat s0) (λk=>cv prog n.toNat s0-k) 0 (λs=>match s with|0=>1|s=>s) (au (λs=>match s with|0=>1|s=>s) wT wH rfl) rfl (rfl) (aE _) ?_;intro k m;have e:k<=cv prog n.toNat s0:=m;have o:=AB prog n.toNat s0;have g:k<=10000:=oT;refine rQ<|rQ<|nU rfl<|a6<|oR 2 rfl<|rV (vB (decide ((k:Int)<n))) rfl<|oR 1 rfl<|gN rfl<|gS rfl id<|a' (x:=vB (((cr prog s0 k).halt)==0)) rfl id rfl<|bO rfl rfl rfl (λh=>h)<|rE 9 ?_;refine Cz (v:=cE (decide ((k:Int)<n)) (((cr prog s0 k).halt)==0) false) rfl (λb=>?_) (λb=>?_)
 ·have d:k<cv prog n.toNat s0:=Vi e (oH (a7 (vD b).1)) (mT (vD b).2);refine nU rfl<|mF<|rQ<|AA<|rQ<|nU rfl<|a6<|oR 2 rfl<|ba rfl (Yi prog (cr prog s0 k) a hp ad (Si c k))<|oR 3 rfl<|c4 15 rfl rfl<|c4 16 rfl rfl<|a4 rfl<|a4 rfl<|rE 19<|rQ ?_;refine nU rfl<|a6<|oR 1 rfl<|a4 rfl<|rE 21<|rQ<|NI rfl 3 rfl rfl rfl<|oR 3 rfl<|rE 24 ?_;refine⟨(gE prog (cr prog s0 k)),_,⟨be [(0,.v y),(1,.dp 35 0 (cx s0.K s0.r s0.mem s0.halt)),(2,.dp 1 0 ([vI n])),(3,.dp 1 0 ([.X 1 (prog.map dU) a])),(6,vN k),(5,.ptr 0 0),(27,.v y),(28,.agg (cx ((gE prog (cr prog s0 k)).1).K ((gE prog (cr prog s0 k)).1).r ((gE prog (cr prog s0 k)).1).mem ((gE prog (cr prog s0 k)).1).halt)),(29,.agg (a3 ((gE prog (cr prog s0 k)).2)))],ao [(0,.box (cx (cr prog s0 (k+1)).K (cr prog s0 (k+1)).r (cr prog s0 (k+1)).mem (cr prog s0 (k+1)).halt))],1⟩,λs=>match s with|0=>0|s=>s,au _ wT wH rfl,rfl,rfl,rfl,rfl,rfl,rfl,(by rw[KW];exact Yg d),λj=>?_⟩;refine oR 1 rfl<|rE 26 ?_;refine Cz (v:= !j) rfl (λf=>?_) (λf=>?_)
  ·refine nU rfl<|FQ ?_;intro c;rw[f]at c;cases c
  refine nU rfl<|mF<|nU rfl<|a6<|oR 1 rfl ?_;have l:k+1<=10001:=aD g (aC 1);refine rW _ rfl (ax (bH l rfl))<|oR 1 rfl<|rE 29 ?_;refine⟨f,k+1,λs=>s,au _ wT wH rfl,rfl,(KW prog s0 k).symm,d,c7⟩
 have i:k=cv prog n.toNat s0:=xa e λq=>Sk b ⟨jP ad,sU q.2⟩;refine nU rfl<|Bh ?_;intro _;rw[i]
def PL(m:ByteArray):St:=⟨0,λ_=>0,jB m,0⟩
def Jk(m:ByteArray):(PL m).ok:=⟨aE _,λ_=>aE _,by show(jB m).size<=256;rw[wE];exact(RA _)⟩
def D'(prog:List Nat)(s0:St)(n:Int)(a:Bool)(hp:∀x∈prog,x<=4294967295)(b:prog.length<=1000)(c:s0.ok):bI C0 13 [.X 1 (prog.map dU) a,i_ s0,vI n] (.F 20 [] [.dp 35 0 (cx s0.K s0.r s0.mem s0.halt),.dp 1 0 [vI n],.dp 1 0 [.X 1 (prog.map dU) a]]):=by
 apply bx func13 rfl;apply zV (.F 20 [] [.ptr 1 0,.ptr 2 0,.ptr 0 0]);exact dK rfl f_ rfl rfl
def A_(prog:List Nat)(m:ByteArray)(n:Int)(b:Bool)(hp:∀x∈prog,x<=4294967295)(f:prog.length<=1000):bI C0 5 [.X 1 (prog.map dU) b,.v (.string m),vI n] (.A [i_ (hD (PL m) (fc prog (PL m) (cv prog (min n 10000).toNat (PL m)))),.X 9 (((fc prog (PL m) (cv prog (min n 10000).toNat (PL m))).map Prod.snd).map a3) false]):=by
 refine pm (bI.Zj (C:=C1) (λd=>k9.wd d) (λn=>k9.at) func5 rfl rfl (by kernel_rfl) rfl ?_);refine uO<|tQ rfl<|a6<|c4 0 rfl rfl<|oR 1 rfl<|rE 2<|uO<|tQ rfl<|a6<|oR 2 rfl<|ba rfl (ze _ m)<|c4 5 rfl rfl<|a4 rfl<|rE 7<|uO<|tQ rfl ?_;refine a6<|c4 7 rfl rfl<|rE 8<|uO<|uO<|tQ rfl<|a6<|oR 3 rfl<|rW _ rfl (ax (Qk n 10000))<|ba rfl (D' prog (PL m) (min n 10000) b hp f (Jk m))<|rE 13<|Ja ?_;refine Md (.mk _ (.refl _) ⟨⟨be [(6,.ptr 0 0),(8,.ptr 1 0),(9,.ptr 2 0),(19,.F 20 [] [.dp 35 0 (cx (PL m).K (PL m).r (PL m).mem (PL m).halt),.dp 1 0 ([vI (min n 10000)]),.dp 1 0 ([.X 1 (prog.map dU) b])])],ao [(0,.box (cx 0 (λ_=>0) (⟨#[]⟩:ByteArray) 0)),(1,.box (cx (PL m).K (PL m).r (PL m).mem (PL m).halt)),(2,.box [.X 0 ([]) true])],3⟩,λs=>match s with|0=>0|1=>5|2=>7|s=>s,au _ wT wH rfl,rfl,?_⟩);refine .mk (St×Sp) 20 [.dp 35 0 (cx (PL m).K (PL m).r (PL m).mem (PL m).halt),.dp 1 0 ([vI (min n 10000)]),.dp 1 0 ([.X 1 (prog.map dU) b])] (λx:St×Sp=>[i_ x.1,q3 x.2]) wx (fc prog (PL m) (cv prog (min n 10000).toNat (PL m))) (λ_=>True) 3 (λpre=>match pre with|[]=>ao [(0,.box (cx 0 (λ_=>0) (⟨#[]⟩:ByteArray) 0)),(1,.box (cx (PL m).K (PL m).r (PL m).mem (PL m).halt)),(2,.box [.X 0 ([]) true])]|y_::a=>ao [(0,.box (cx 0 (λ_=>0) (⟨#[]⟩:ByteArray) 0)),(1,.box (cx (hD (PL m) (y_::a)).K (hD (PL m) (y_::a)).r (hD (PL m) (y_::a)).mem (hD (PL m) (y_::a)).halt)),(2,.box [.S 3 0 ((y_::a).length) false]),(3,.arr (((y_::a).map Prod.snd).map a3) 9)]) (λpre=>match pre with|[]=>3|_::_=>4) rfl rfl ⟨_,func20,rfl,rfl⟩ (Bc prog (PL m) (min n 10000) b hp f (Jk m) ad) (λx S w β=>BL (show Ju [i_ x.1,q3 x.2]=some _ from rfl)) (λ_=>rfl) rfl rfl (λpre=>by cases pre<;>rfl) (au (hp:=[]) (λs=>s) wT trivial rfl) ?_ ?_
 ·intro e x h l;rcases e with _|⟨y_,a⟩
  ·refine bk<|c4 3 rfl rfl<|a4 rfl<|rE 5<|a6<|c4 5 rfl rfl<|a4 rfl<|rE 7 ?_;refine⟨rfl,?_⟩;exact kO<|bk<|oR 1 rfl<|a4 rfl<|rE 9<|a6<|oR 2 rfl<|rV (.X 9 ([[vU x.2.K,vU x.2.next,vI x.2.rd,vU x.2.value,vU x.2.V,vI x.2.size,vB x.2.store,vI x.2.halt,vI x.2.ZX]]) true) rfl<|eg (x:=.S 12 0 1 false) (h':=an _ 12 (some (.arr (([x.2]).map a3) 9))) rfl rfl (Iw ad) (⟨rfl,by exact ad,by exact ad,trivial⟩)<|a4 rfl<|rE 14 (⟨trivial,.mk _ (.refl _) ⟨λs=>match s with|3=>12|s=>s,rfl,au (l:=[]) (hp:=[(0,.box (cx 0 (λ_=>0) (⟨#[]⟩:ByteArray) 0)),(1,.box (cx (hD (PL m) (x::[])).K (hD (PL m) (x::[])).r (hD (PL m) (x::[])).mem (hD (PL m) (x::[])).halt)),(2,.box [.S 3 0 ((x::[]).length) false]),(3,.arr (((x::[]).map Prod.snd).map a3) 9)]) (λs=>match s with|3=>12|s=>s) trivial wH rfl⟩⟩)
  have c:(y_::a).length<=10000:=by have j:=h.length_le;rw[qu,aU]at j;have k:=AB prog (min n 10000).toNat (PL m);omega
  have g:(y_::a).length=a.length+1:=rfl;refine bk<|c4 4 rfl rfl<|a4 rfl<|rE 6<|a6<|c4 6 rfl rfl<|a4 rfl<|rE 8 ?_;refine⟨rfl,?_⟩;exact kO<|bk<|oR 1 rfl<|a4 rfl<|rE 10<|a6<|oR 2 rfl<|rV (.X 9 ([[vU x.2.K,vU x.2.next,vI x.2.rd,vU x.2.value,vU x.2.V,vI x.2.size,vB x.2.store,vI x.2.halt,vI x.2.ZX]]) true) rfl<|eg (x:=.S 13 0 ((y_::a).length+1) false) (h':=an (an _ 3 none) 13 (some (.arr ((((y_::a).map Prod.snd)++([x.2])).map a3) 9))) rfl rfl (iP a3 ((y_::a).map Prod.snd) ([x.2]) ad ad) (⟨by exact ad,by exact ad,trivial⟩)<|a4 rfl<|rE 15 (⟨trivial,.mk _ (.refl _) ⟨λs=>match s with|3=>13|s=>s,rfl,au (l:=[]) (hp:=[(0,.box (cx 0 (λ_=>0) (⟨#[]⟩:ByteArray) 0)),(1,.box (cx (hD (PL m) (y_::(a++[x]))).K (hD (PL m) (y_::(a++[x]))).r (hD (PL m) (y_::(a++[x]))).mem (hD (PL m) (y_::(a++[x]))).halt)),(2,.box [.S 3 0 ((y_::(a++[x])).length) false]),(3,.arr (((y_::(a++[x])).map Prod.snd).map a3) 9)]) (λs=>match s with|3=>13|s=>s) trivial ⟨c9,⟨rfl,(a1 (λz:St=>some (bj.box (cx z.K z.r z.mem z.halt))) (NT (PL m) (y_::a) x).symm),rfl⟩,⟨rfl,(a1 (λz:Nat=>some (bj.box [AV.S 13 0 z false])) (show(y_::a).length+1=(y_::(a++[x])).length by simp)),rfl⟩,⟨rfl,(a1 (λz:List Sp=>some (bj.arr (z.map a3) 9)) (show(y_::a).map Prod.snd++[x.2]=(y_::(a++[x])).map Prod.snd by simp)),rfl⟩,trivial⟩ rfl⟩⟩)
 intro o D;rcases i:fc prog (PL m) (cv prog (min n 10000).toNat (PL m))with _|⟨y_,a⟩
 ·exact uO<|tQ rfl<|pO rfl rfl<|oR 2 rfl<|a4 rfl<|oR 1 rfl<|rE 7<|And.intro (by kernel_rfl)<|tQ rfl<|FQ (⟨_,rfl,trivial,rfl,Sub.A ⟨Sub.refl _,oM 9 false,trivial⟩⟩)
 have c:(y_::a).length<=10000:=by rw[<-i,qu];have k:=AB prog (min n 10000).toNat (PL m);omega
 have g:(y_::a).length=a.length+1:=rfl;exact uO<|tQ rfl<|pO rfl rfl<|oR 2 rfl<|a4 rfl<|oR 1 rfl<|rE 8<|And.intro (by kernel_rfl)<|tQ rfl<|FQ (⟨_,rfl,⟨f_,(by show 0+((y_::a).length)<=(((y_::a).map Prod.snd).map a3).length;exact ad),trivial⟩,rfl,Sub.A ⟨Sub.refl _,(by show Sub (.X 9 (List.take (y_::a).length (List.drop 0 (((y_::a).map Prod.snd).map a3))) false) (.X 9 (((y_::a).map Prod.snd).map a3) false);rw[bS,aN (by simp)];exact Sub.refl _),trivial⟩⟩)
end Go.Proofs.YtmbhlpgmfafmbaaGreatDoor
