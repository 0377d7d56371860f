/- Lemmas. -/
import Derived.Test.YtdhclfgoomldfaaGreatDoorS1
import Derived.Test.YtdhclfgoomldfaaGreatDoorS38
set_option linter.all false
namespace Go.Proofs.YtdhclfgoomldfaaGreatDoor
set_option maxRecDepth 100000
set_option maxHeartbeats 4000000
open Go.RowKit
structure p0(s t:St)(x:Sp):Prop where
 L:x.L=s.L
 halt:x.halt≠0->t={s with halt:=x.halt}∧x.rd=0∧x.store=false
 run:x.halt=0->t.halt=0∧t.L=x.next
 r:t.r=lY s.r x
 mem:t.mem=if x.store=true then DD s.mem x.V (oF x.value x.size.toNat)else s.mem
 st:x.store=true->x.halt=0∧(x.size=1∨x.size=2∨x.size=4)∧kZ s.mem.size x.V x.size=true
def qk(x n j)(c:j<n):gb (oF x n) j=some (UInt8.ofNat (x/256 ^ j%256)):=by
 have b:∀(l:List Int) (r:ByteArray),(l.foldl (λr m=>r.push (UInt8.ofNat m.toNat)) r).data.toList=r.data.toList++l.map λm=>UInt8.ofNat m.toNat:=by
  intro l
  induction l with
  |nil=>intro r;simp
  |cons a l ih=>intro r;rw[mK,ih];simp[ByteArray.push]
 unfold gb oF;rw[<-bQ,b,List.map_map,show(ByteArray.empty.data.toList)=[]from rfl,iA,aX,eZ c];rfl
theorem vj(l:List UInt8):∀(n j:Nat),j<n->db l n/256 ^ j%256=(l.getD j 0).toNat
 |0,j,h=>absurd h (dG j)
 | n+1,j,h=>by
  have b:=yK l n;unfold db;by_cases e:j=n
  ·subst e;rw[Nat.add_mul_div_left _ _ (Nat.pow_pos dT),Nat.div_eq_of_lt b,bJ];exact jM (UInt8.toNat_lt _)
  ·have a:j<n:=oT;have ih:=vj l n j a;rw[<-ih];obtain⟨d,rfl⟩:∃d,n=j+1+d:=⟨n-(j+1),oT⟩;rw[show 256 ^ (j+1+d)*(l.getD (j+1+d) 0).toNat=256 ^ j*(256*(256 ^ d*(l.getD (j+1+d) 0).toNat)) by rw[Nat.pow_add,Nat.pow_succ];ac_rfl];rw[Nat.add_mul_div_left _ _ (Nat.pow_pos dT),Nat.add_mul_mod_self_left]
def u0(b n):oF (k' b n) n=oF b n:=by
 refine mw (by rw[mP,mP]) λj a=>?_;rw[mP]at a;rw[qk _ _ _ a,qk _ _ _ a];unfold k';rw[mP,vj _ _ _ a];have h:=qk b n j a;have c:(oF b n).data.toList.getD j 0=UInt8.ofNat (b/256 ^ j%256):=by
  rw[aR,bQ];unfold gb at h;rw[h];rfl
 rw[c];congr 1;simp
def vu(a):(ak a=3↔11<=a∧a<=15)∧(ak a=4↔16<=a∧a<=18)∧(ak a=5↔3<=a∧a<=10):=by
 unfold ak;(repeat' split)<;>omega
def G6{i}(h:ak i.op=4):wr i=0:=by
 have:=(vu i.op).2.1.1 h;have a:cW i.op=4:=by unfold cW;(repeat' split)<;>omega
 unfold wr;rw[a];rfl
def ov(prog){s}(h:s.halt=0):p0 s (gE prog s).1 (gE prog s).2:=by
 have p:=ta (bi prog s.L);have a:∀(x:Sp),x.rd=0->lY s.r x=s.r:=λx u=>by unfold lY;rw[dZ (by rw[u];omega)]
 have b:∀f g,f≠0->p0 s (Gc s f g).1 (Gc s f g).2:=λf g t=>⟨rfl,λ_=>c9,λe=>absurd e t,(a _ rfl).symm,rfl,λe=>by cases e⟩;have k:∀(i:SI) (x:Sp),i=rA prog s->x.rd=wr i->wr i≠0->x.halt=0->lY s.r x=iw s.r (wr i).toNat x.value:=λi x n q v r=>by
  unfold lY;rw[q,aa ⟨by subst n;have:0<=wr (rA prog s):=p.1;omega,by subst n;have:wr (rA prog s)<32:=p.2;omega,r⟩]
 unfold gE;rw[aa h];split
 ·split
  ·exact b 2 0 dT
  unfold gh;split
  ·exact b 6 0 dT
  split
  ·exact b 7 0 dT
  split
  ·unfold sN;split
   ·rename_i l;split
    ·rename_i d;have o:((be (rA prog s).op:Nat):Int)=1∨((be (rA prog s).op:Nat):Int)=2∨((be (rA prog s).op:Nat):Int)=4:=by
      unfold kZ at l;simp[aP,aY]at l;exact l.1
     refine⟨rfl,λe=>absurd rfl e,λ_=>⟨h,rfl⟩,?_,?_,λ_=>⟨rfl,o,l⟩⟩
     ·exact(a _ (G6 d)).symm
     simp only[d,q9,fD];rw[Int.toNat_natCast,u0]
    rename_i d;split
    ·rename_i c;exact⟨rfl,λe=>absurd rfl e,λ_=>⟨h,rfl⟩,(a _ c).symm,by simp[d],λe=>by simp[d]at e⟩
    rename_i c;exact⟨rfl,λe=>absurd rfl e,λ_=>⟨h,rfl⟩,(by symm;exact k _ _ rfl rfl c rfl),by simp[d],λe=>by simp[d]at e⟩
   exact b _ _ (by split<;>decide)
  unfold oN;have j:∀m tk,p0 s (IJ s (rA prog s) (s.r (rA prog s).j.toNat) (s.r (rA prog s).u.toNat) m tk).1 (IJ s (rA prog s) (s.r (rA prog s).j.toNat) (s.r (rA prog s).u.toNat) m tk).2:=λm tk=>by
   unfold IJ;split
   ·rename_i c;exact⟨rfl,λe=>absurd rfl e,λ_=>⟨h,rfl⟩,(a _ c).symm,rfl,λe=>by cases e⟩
   rename_i c;exact⟨rfl,λe=>absurd rfl e,λ_=>⟨h,rfl⟩,(by symm;exact k _ _ rfl rfl c rfl),rfl,λe=>by cases e⟩
  split
  ·split
   ·exact j _ _
   exact b 3 0 dT
  exact j _ _
 exact b 1 0 dT
def gz(prog:List Nat)(pc:Nat):Prop:=(en prog pc).isSome=true∧dw (bi prog pc)≠0
def e6(prog:List Nat)(T:St)(e:ai):St×Sp:=gE prog ⟨e.L,T.r,T.mem,0⟩
def c8(prog:List Nat)(T:St)(l:List ai):St:=l.foldl (λT e=>(e6 prog T e).1) T
def l0(prog:List Nat)(T:St)(e:ai)(l:List ai):c8 prog T (e::l)=c8 prog (e6 prog T e).1 l:=rfl
def G7(prog:List Nat)(T:St)(a b:List ai):c8 prog T (a++b)=c8 prog (c8 prog T a) b:=List.foldl_append
structure dm(prog:List Nat)(T:St)(e:ai):Prop where
 ins:gz prog e.L->e.i=bn (bi prog e.L)
 Zy: ¬gz prog e.L->e.is=3∧e.i=MG
 told:e.is=1∨e.is=3->cA e=(e6 prog T e).2
 wait:e.is=0∨e.is=2->e.halt=0∧e.i.op≠47∧e.i.op≠48
 ZB:e.known=true->ak e.i.op=3∨ak e.i.op=4->e.V=gy e.i (T.r e.i.j.toNat)∧kZ T.mem.size e.V (be e.i.op)=true
 st:e.is=0∨e.is=1∨e.is=2∨e.is=3
 X:e.is=2->ak e.i.op=3∧e.known=true
 run:e.is=1->e.halt=0∨(ak e.i.op=5∧e.halt=3)
 Zt:ak e.i.op=4->e.is≠1
 ahead:ak e.i.op=3->e.is=1->e.known=true
 Zg:ak e.i.op=5->e.known=true->e.is=3∧e.halt=0
 YW:ak e.i.op=5->e.is=3->e.halt=0->e.known=true
 gs:(gz prog e.L->ak e.i.op≠5)->e.M=b8 e.L
def h6(prog:List Nat):St->List ai->Prop
 |_,[]=>True
 |T,e::l=>dm prog T e∧h6 prog (e6 prog T e).1 l
theorem m3{prog:List Nat}:∀{T:St} {a b:List ai},h6 prog T (a++b)↔h6 prog T a∧h6 prog (c8 prog T a) b
 |T,[],b=>⟨λh=>⟨trivial,h⟩,λh=>h.2⟩
 |T,e::a,b=>by
  show dm prog T e∧h6 prog (e6 prog T e).1 (a++b)↔(dm prog T e∧h6 prog (e6 prog T e).1 a)∧_;rw[m3,l0,uK]
def jg{prog}{T}{l}(h:h6 prog T l){k}{e}(b:l[k]?=some e):dm prog (c8 prog T (l.take k)) e:=by
 let⟨c,a⟩:=Em.1 b;have:l=l.take k++e::l.drop (k+1):=by rw[<-a, <-bF c,ki]
 rw[this]at h;exact(m3.1 h).2.1
def wc(prog)(T){e a}(h:a.L=e.L):e6 prog T a=e6 prog T e:=by unfold e6;rw[h]
theorem vk(prog:List Nat):∀(T:St) (l a:List ai),a.map (·.L)=l.map (·.L)->c8 prog T a=c8 prog T l
 |T,[],[],_=>rfl
 |T,[],_::_,h=>by cases h
 |T,_::_,[],h=>by cases h
 |T,e::l,b::a,h=>by
  simp[jC,List.cons.injEq]at h;rw[l0,l0,wc prog T h.1,vk prog _ l a h.2]
def I7(prog){s}(h:s.halt=0):(gE prog s).2.rd=0∨((gE prog s).2.rd=wr (rA prog s)∧gz prog s.L):=by
 unfold gE;rw[aa h];split
 ·rename_i a;split
  ·exact .inl rfl
  rename_i b;unfold gh sN oN IJ Gc
  (repeat' split)<;>first|exact .inl rfl|exact .inr ⟨rfl,⟨a,b⟩⟩
 exact .inl rfl
def G8{e}(h:e.halt=0)(a:wr e.i≠0):(cA e).rd=wr e.i∧(cA e).halt=0∧(cA e).value=e.value:=by
 unfold cA;rw[dZ (by rw[h];decide)]
 (repeat' split)<;>first|exact⟨rfl,rfl,rfl⟩|contradiction
theorem vy{prog:List Nat}{T:St}{agI:List ai}(h:h6 prog T agI){a:Int}(r:1<=a)(s:a<=31):∀(n:Nat),n<=agI.length->
  (ib agI a n=none->(c8 prog T (agI.take n)).r a.toNat=T.r a.toNat)∧
  (∀k e,ib agI a n=some k->agI[k]?=some e->e.is=3->e.halt=0->(c8 prog T (agI.take n)).r a.toNat=e.value)
 |0,_=>⟨λ_=>rfl,nofun⟩
 | n +1,m=>by
  let⟨x,g⟩:∃x,agI[n]?=some x:=⟨_,aA ad⟩;have j:=jg h g;have l:=ov prog (s:=⟨x.L,(c8 prog T (agI.take n)).r,(c8 prog T (agI.take n)).mem,0⟩) rfl;have c:=I7 prog (s:=⟨x.L,(c8 prog T (agI.take n)).r,(c8 prog T (agI.take n)).mem,0⟩) rfl;have f:c8 prog T (agI.take (n+1))=(e6 prog (c8 prog T (agI.take n)) x).1:=by
   rw[bW,g,G7];rfl
  let⟨o,p⟩:=vy h r s n ad;rw[f];unfold ib LS;rw[g];simp[aY];by_cases b:wr x.i=a
  ·rw[aa b];refine⟨nofun,λk e i d t q=>?_⟩;injection i with i;subst i;rw[g]at d;injection d with d;subst d;let⟨t1,t2,t3⟩:=G8 q ad;have f:=j.told (.inr t);show(gE prog _).1.r _=_;rw[l.r];unfold e6 at f;rw[<-f];unfold lY;rw[aa ⟨oT,oT,t2⟩,t1,b,t3];exact aa rfl
  ·rw [dZ b];have m:(e6 prog (c8 prog T (agI.take n)) x).1.r a.toNat=(c8 prog T (agI.take n)).r a.toNat:=by
    show(gE prog _).1.r _=_;rw[l.r];unfold lY;split
    ·rename_i v;have:(gE prog ⟨x.L,(c8 prog T (agI.take n)).r,(c8 prog T (agI.take n)).mem,0⟩).2.rd≠a:=by
      rcases c with c|⟨c,u⟩
      ·omega
      ·rw[c];have:=j.ins u;rw[this]at b;exact b
     show(if a.toNat=_ then _ else _)=_;rw[dZ ad]
    ·rfl
   rw[m];exact⟨o,p⟩
theorem vl{prog:List Nat}:∀{T:St} (l:List ai),T.r 0=0->(c8 prog T l).r 0=0
 |T,[],h=>h
 | T,e::l,h=>by
  rw[l0];refine vl l ?_;show(gE prog _).1.r 0=0;rw[(ov prog (s:=⟨e.L,T.r,T.mem,0⟩) rfl).r];unfold lY;split
  ·show(if 0=_ then _ else _)=_;rw[dZ ad];exact h
  ·exact h
def vv{prog}{T}{agI}(h:h6 prog T agI)(j:T.r 0=0){i}(f:i<=agI.length){b}{v}(a:lK agI T.r i b=some v):v=(c8 prog T (agI.take i)).r b.toNat:=by
 unfold lK at a;split at a
 ·rename_i g;injection a with a;subst g;rw[<-a];exact(vl _ j).symm
 split at a
 ·cases a
 rename_i p g;have l:b<=31:=oT;let⟨n,o⟩:=vy h oT l i f;unfold gX at a;rw[dZ ad,lq f]at a;split at a
 ·rename_i c;injection a with a;rw[n c];exact a.symm
 rename_i k c;split at a
 ·rename_i e m;split at a
  ·rename_i d;injection a with a;rw[o k e c m d.1 d.2];exact a.symm
  cases a
 cases a
def m'{prog}{T}{e}(a:gz prog e.L)(d:e.i=bn (bi prog e.L))(b:e.i.op≠47)(c:e.i.op≠48):
  e6 prog T e=if ak e.i.op=3∨ak e.i.op=4 then sN ⟨e.L,T.r,T.mem,0⟩ e.i (T.r e.i.j.toNat) (T.r e.i.u.toNat)else oN ⟨e.L,T.r,T.mem,0⟩ e.i (T.r e.i.j.toNat) (T.r e.i.u.toNat):=by
 have hI:rA prog ⟨e.L,T.r,T.mem,0⟩=e.i:=d.symm;unfold e6 gE;rw[aa rfl,aa a.1,dZ a.2,hI];unfold gh;rw[dZ b,dZ c]
def K_{prog}{T}{e}(h:dm prog T e):dm prog T (a0 e)∧(a0 e).L=e.L:=by
 unfold a0;split
 ·exact⟨h,rfl⟩
 rename_i g;split
 ·refine⟨⟨h.ins,λf=>⟨rfl,(h.Zy f).2⟩,λ_=>(h.told (.inl oT)),(λh=>by rcases h with h|h<;>cases h),λa d=>h.ZB ?_ d,.inr (.inr (.inr rfl)),nofun,nofun,nofun,nofun,λb a=>⟨rfl,?_⟩,λb _ c=>aa ⟨b,c⟩,h.gs⟩,rfl⟩
  ·have a:(if ak e.i.op=5∧e.halt=0 then true else e.known)=true:=a
   rwa [dZ (λq=>by have:=q.1;have d:ak e.i.op=3∨ak e.i.op=4:=d;omega)]at a
  have a:(if ak e.i.op=5∧e.halt=0 then true else e.known)=true:=a;by_cases c:e.halt=0
  ·exact c
  rw[dZ (λq=>c q.2)]at a;exact absurd (h.Zg b a).1 ad
 exact⟨⟨h.ins,h.Zy,h.told,h.wait,h.ZB,h.st,h.X,h.run,h.Zt,h.ahead,h.Zg,h.YW,h.gs⟩,rfl⟩
def HW{prog}{T}{e}(h:dm prog T e){a b}(D:e.is=0->a=T.r e.i.j.toNat)(E:e.is=0->b=T.r e.i.u.toNat):dm prog T (rJ e a b)∧(rJ e a b).L=e.L:=by
 by_cases v:e.is≠0∨ak e.i.op=3∨ak e.i.op=4
 ·unfold rJ;rw[aa v];exact⟨h,rfl⟩
 have k:e.is=0:=oT;let⟨d,F,G⟩:=h.wait (.inl k);have l:gz prog e.L:=eg λq=>by have:=(h.Zy q).1;omega
 obtain rfl:=D k;obtain rfl:=E k;have n:=m' (T:=T) l (h.ins l) F G;rw[dZ ad]at n;have u:ak e.i.op=5->e.known=false:=λq=>by
  cases c:e.known with
  |false=>rfl
  |true=>have:=(h.Zg q c).1;omega
 have i:∀(x:ai),x.L=e.L->x.i=e.i->x.M=e.M->x.is=1->x.known=e.known->(x.halt=0∨(ak e.i.op=5∧x.halt=3))->cA x=(e6 prog T e).2->dm prog T x∧x.L=e.L:=λx j f z H A B C=>by
  refine⟨⟨by rw[j,f];exact h.ins,λq=>absurd l (by rwa [j]at q),λ_=>by rw[wc prog T j];exact C,λq=>by omega,λ_ q=>by rw[f]at q;omega,oT,λq=>by omega,λ_=>by rw[f];exact B,λq=>by rw[f]at q;omega,λq=>by rw[f]at q;omega,λw y=>?_,λ_ q=>by omega,by rw[j,f,z];exact h.gs⟩,j⟩;rw[f]at w;rw[A,u w]at y;cases y
 unfold rJ;rw[dZ v];rw[n]at i;split
 ·rename_i c;refine i _ rfl rfl rfl rfl rfl (.inl d) ?_;unfold cA uE oN IJ;simp[d,c];by_cases g:wr e.i=0<;>simp[g]
 ·rename_i o;split
  ·rename_i c;refine i _ rfl rfl rfl rfl rfl (.inl d) ?_;unfold cA uE oN IJ;simp[d,c];by_cases g:wr e.i=0<;>simp[g]
  ·rename_i p;split
   ·rename_i c;split
    ·rename_i m;refine i _ rfl rfl rfl rfl rfl (.inl d) ?_;unfold cA uE oN IJ;simp[d,c,m];by_cases g:wr e.i=0<;>simp[g]
    ·rename_i m;refine i _ rfl rfl rfl rfl rfl (.inr ⟨c,rfl⟩) ?_;unfold cA oN Gc;simp[c,m]
   ·rename_i t;refine i _ rfl rfl rfl rfl rfl (.inl d) ?_;have r:ak e.i.op≠3:=oT;have s:ak e.i.op≠4:=oT;unfold cA uE oN IJ;by_cases g:wr e.i=0<;>simp[g,d,o,p,r,s,t]
def vw{prog}{T}{e}(h:dm prog T e){size:Int}{a}(l:size=T.mem.size)(k:e.is=0->e.known=false->a=T.r e.i.j.toNat):dm prog T (yC e size a)∧(yC e size a).L=e.L:=by
 by_cases f:(ak e.i.op≠3∧ak e.i.op≠4)∨e.is≠0∨e.known=true
 ·unfold yC;rw[aa f];exact⟨h,rfl⟩
 have i:e.is=0:=oT
 have b:e.known=false:=by cases d:e.known with
  |false=>rfl
  |true=>exact absurd (.inr (.inr d)) f
 let⟨o,m,n⟩:=h.wait (.inl i);have c:gz prog e.L:=eg λq=>by have:=(h.Zy q).1;omega
 obtain rfl:=k i b;subst l;have j:=m' (T:=T) c (h.ins c) m n;rw[aa ad]at j;unfold yC;rw[dZ f];split
 ·rename_i g;exact⟨⟨h.ins,h.Zy,λq=>absurd (show e.is=1∨e.is=3 from q) ad,h.wait,λ_ _=>⟨rfl,g⟩,h.st,λq=>⟨(h.X q).1,rfl⟩,h.run,h.Zt,λ_ _=>rfl,λq=>by have q:ak e.i.op=5:=q;omega,λq=>by have q:ak e.i.op=5:=q;omega,h.gs⟩,rfl⟩
 ·rename_i g;refine⟨⟨h.ins,λq=>absurd c q,λ_=>?_,(λq=>by rcases q with q|q<;>cases q),(λq=>by rw[show e.known=true from q]at b;cases b),.inr (.inr (.inr rfl)),nofun,nofun,nofun,nofun,λq=>by have q:ak e.i.op=5:=q;omega,λq=>by have q:ak e.i.op=5:=q;omega,h.gs⟩,rfl⟩;show cA _=(e6 prog T e).2;rw[j];unfold sN;rw[dZ (show ¬kZ _ (gy e.i (T.r e.i.j.toNat)) (be e.i.op:Nat)=true from g)];unfold cA Gc gy;by_cases d:ak e.i.op=4<;>simp[d]
def HX{prog}{T}{e}(h:dm prog T e){b}(j:b=T.r e.i.u.toNat):dm prog T (uF e b)∧(uF e b).L=e.L:=by
 unfold uF;split
 ·exact⟨h,rfl⟩
 ·rename_i k;have a:ak e.i.op=4:=oT
  have f:e.known=true:=by cases a:e.known with
   |true=>rfl
   |false=>exact absurd (.inr (.inl a)) k
  let⟨l,m,n⟩:=h.wait (.inl oT);have c:gz prog e.L:=eg λq=>by have:=(h.Zy q).1;omega
  subst j;have d:=m' (T:=T) c (h.ins c) m n;rw[aa ad]at d;let⟨g,i⟩:=h.ZB f (.inr a);refine⟨⟨h.ins,λq=>absurd c q,λ_=>?_,(λq=>by rcases q with q|q<;>cases q),h.ZB,.inr (.inr (.inr rfl)),nofun,nofun,nofun,nofun,λq=>by have q:ak e.i.op=5:=q;omega,λq=>by have q:ak e.i.op=5:=q;omega,h.gs⟩,rfl⟩;show cA _=(e6 prog T e).2;rw[d];unfold sN;rw[<-g,aa i,aa a];unfold cA;simp[l,a]
def qv{prog}{T}{e}(h:dm prog T e){s}(l:e.known=true->ak e.i.op=3->e.is=0∨e.is=2->s=Cv T.mem e.V (be e.i.op)):dm prog T (uM e s)∧(uM e s).L=e.L:=by
 unfold uM;split
 ·exact⟨h,rfl⟩
 ·rename_i k;have a:ak e.i.op=3:=oT
  have b:e.known=true:=by cases a:e.known with
   |true=>rfl
   |false=>exact absurd (.inr (.inl a)) k
  have d:e.is=0∨e.is=2:=oT;let⟨g,n,o⟩:=h.wait d;have c:gz prog e.L:=eg λq=>by have:=(h.Zy q).1;omega
  obtain rfl:=l b a d;have f:=m' (T:=T) c (h.ins c) n o;rw[aa ad]at f;let⟨i,j⟩:=h.ZB b (.inl a);refine⟨⟨h.ins,λq=>absurd c q,λ_=>?_,(λq=>by rcases q with q|q<;>cases q),h.ZB,.inr (.inl rfl),nofun,λ_=>.inl g,λq=>by have q:ak e.i.op=4:=q;omega,λ_ _=>b,λq=>by have q:ak e.i.op=5:=q;omega,λq=>by have q:ak e.i.op=5:=q;omega,h.gs⟩,rfl⟩;show cA _=(e6 prog T e).2;rw[f];unfold sN;rw[<-i,aa j,dZ (oT:¬ak e.i.op=4)];unfold cA;by_cases m:wr e.i=0<;>simp[g,a,m]
def H0(prog)(T)(no)(f)(r:(gz prog f.L->ak (bn (bi prog f.L)).op≠5)->f.M=b8 f.L):dm prog T (qB no f prog)∧(qB no f prog).L=f.L:=by
 have p:ak MG.op≠5:=dT;have i:∀(x:ai) (a:Int),a≠0->a≠4->a≠5->x={Cs with no:=no,L:=f.L,M:=f.M,i:=x.i,halt:=a,is:=3}->(gz prog f.L->x.i=bn (bi prog f.L))->(¬gz prog f.L->x.i=MG)->ak x.i.op≠5->gE prog ⟨f.L,T.r,T.mem,0⟩=Gc ⟨f.L,T.r,T.mem,0⟩ a 0->dm prog T x∧x.L=f.L:=by
  intro x a E J K D o B e C;let⟨G,H,P,N,F,R,V,S,L,O,U,Q,M⟩:=x;injection D with s t I u v w y z A k l m n;subst s t u v w y z A k l m n;refine⟨⟨o,λq=>⟨rfl,B q⟩,λ_=>?_,(λq=>by rcases q with q|q<;>cases q),nofun,.inr (.inr (.inr rfl)),nofun,nofun,nofun,nofun,λq=>absurd q e,λq=>absurd q e,λ_=>r λq=>by have:=o q;simp only at this e;rwa [this]at e⟩,rfl⟩;show cA _=(gE prog _).2;rw[C];unfold cA Gc;simp only;rw[aa E,dZ ad]
 unfold qB;split
 ·rename_i b;apply i _ 1 dT dT dT rfl (λq=>by have:=q.1;rw[b]at this;cases this) (λ_=>rfl) p;unfold gE;rw[aa rfl,dZ (by rw[b];decide)]
 ·rename_i b
  have b:(en prog f.L).isSome=true:=by cases h:(en prog f.L).isSome with
   |true=>rfl
   |false=>exact absurd h b
  split
  ·rename_i c;apply i _ 2 dT dT dT rfl (λq=>absurd c q.2) (λ_=>rfl) p;unfold gE;rw[aa rfl,aa b,aa c]
  ·rename_i c;have j:gz prog f.L:=⟨b,c⟩;split
   ·rename_i d;apply i _ 6 dT dT dT rfl (λ_=>rfl) (λq=>absurd j q) (by simp[d];decide);unfold gE;rw[aa rfl,aa b,dZ c];unfold gh;rw[aa (show(rA prog ⟨f.L,T.r,T.mem,0⟩).op=47 from d)]
   ·rename_i d;split
    ·rename_i g;apply i _ 7 dT dT dT rfl (λ_=>rfl) (λq=>absurd j q) (by simp[g];decide);unfold gE;rw[aa rfl,aa b,dZ c];unfold gh;rw[dZ (show ¬(rA prog ⟨f.L,T.r,T.mem,0⟩).op=47 from d),aa (show(rA prog ⟨f.L,T.r,T.mem,0⟩).op=48 from g)]
    ·rename_i g;exact⟨⟨λ_=>rfl,λq=>absurd j q,(λq=>by rcases q with q|q<;>cases q),λ_=>⟨rfl,d,g⟩,nofun,.inl rfl,nofun,nofun,nofun,nofun,nofun,nofun,r⟩,rfl⟩
def vz(m)(a)(b)(h:a+b.size<=m.size)(i):gb (DD m a b) i=(dg ⟨a,b⟩ i).or (gb m i):=by
 unfold gb dg DD;have f:m.data.toList.length=m.size:=cV;have e:b.data.toList.length=b.size:=cV;have c:(m.data.toList.take a).length=a:=by rw[aM];omega
 rw[<-bQ, <-bQ];show((m.data.toList.take a++b.data.toList)++m.data.toList.drop (a+b.size))[i]?=_;by_cases d:i<a
 ·rw[dZ (oT:¬a<=i),eD,cF ad,List.getElem?_take_of_lt d];rfl
 rw[aa (oT:a<=i)];by_cases c2:i<a+b.size
 ·rw[cF (by rw[aU];omega),bM ad,c];show _=(gb b _).or _;unfold gb;rw[<-bQ,aA ad];rfl
 rw[bM (by rw[aU];omega),aU,c,e,cL,(oT:a+b.size+(i-(a+b.size))=i)];show _=(gb b _).or _;rw[j8 ad];rfl
def u_(m)(a)(b)(h:a+b.size<=m.size):(DD m a b).size=m.size:=by
 have d:m.data.toList.length=m.size:=cV;have c:b.data.toList.length=b.size:=cV;show(m.data.toList.take a++b.data.toList++m.data.toList.drop _).toArray.size=_;rw[kP,aU,aU,aM,bD];omega
def na{n:Nat}{a}{k}(h:kZ (n:Int) a (k:Nat)=true):(k=1∨k=2∨k=4)∧a+k<=n:=by
 unfold kZ at h;simp[aP,aY]at h;omega
def vD{prog}{T}{e}(h:dm prog T e):
  (ak e.i.op≠4->(e6 prog T e).1.mem=T.mem)∧
  (ak e.i.op=4->e.known=true->e.halt=0∧(e6 prog T e).1.mem=DD T.mem e.V (oF (T.r e.i.u.toNat) (be e.i.op))∧(e.is=3->oF e.value (be e.i.op)=oF (T.r e.i.u.toNat) (be e.i.op))):=by
 constructor
 ·intro d;by_cases f:gz prog e.L
  ·have n:rA prog ⟨e.L,T.r,T.mem,0⟩=e.i:=(h.ins f).symm;unfold e6 gE;rw[aa rfl,aa f.1,dZ f.2,n];unfold gh sN oN IJ Gc;rw[dZ d]
   (repeat' split)<;>rfl
  unfold e6 gE Gc;rw[aa rfl];unfold gz at f;split
  ·split
   ·rfl
   rename_i a b;exact absurd ⟨a,b⟩ f
  rfl
 intro d j;let⟨k,l⟩:=h.ZB j (.inr d);have f:gz prog e.L:=eg λq=>by rw[(h.Zy q).2]at d;revert d;decide
 have o:=(vu e.i.op).2.1.1 d;have g:=m' (T:=T) f (h.ins f) ad ad;rw[aa (.inr d)]at g;unfold sN at g;rw[<-k,aa l,aa d]at g;refine⟨?_,by rw[g],λm=>?_⟩
 ·rcases h.st with q|q|q|q
  ·exact(h.wait (.inl q)).1
  ·exact absurd q (h.Zt d)
  ·exact(h.wait (.inr q)).1
  have c:=h.told (.inr q);rw[g]at c;unfold cA at c;split at c
  ·rename_i i;have:=ax Sp.halt c;exact absurd this i
  rename_i i;exact b'.1 i
 have c:=h.told (.inr m);rw[g]at c;unfold cA at c;split at c
 ·rename_i i;have:=ax Sp.halt c;exact absurd this i
 have:=ax Sp.value c;simp only at this;rw[this,u0]
def FT{prog}{T}{e}:(e6 prog T e).1.mem.size=T.mem.size:=by
 have b:=ov prog (s:=⟨e.L,T.r,T.mem,0⟩) rfl;show(gE prog _).1.mem.size=_;rw[b.mem];split
 ·rename_i d;let⟨_,f,a⟩:=b.st d;let⟨k,c⟩:∃k:Nat,(gE prog ⟨e.L,T.r,T.mem,0⟩).2.size=(k:Int):=⟨_,(lU ad).symm⟩;rw[c]at a⊢;exact u_ _ _ _ (by rw[mP];exact(na a).2)
 rfl
theorem ko{prog:List Nat}:∀{T:St} (l:List ai),(c8 prog T l).mem.size=T.mem.size
 |T,[]=>rfl
 |T,e::l=>by rw[l0,ko l,FT]
def wl(prog:List Nat):St->List ai->List Pt
 |_,[]=>[]
 |T,e::l=>(if gj e 4=true then [⟨e.V,oF (T.r e.i.u.toNat) (be e.i.op)⟩]else [])++wl prog (e6 prog T e).1 l
def qw(prog:List Nat)(T:St)(e:ai)(l:List ai):wl prog T (e::l)=(if gj e 4=true then [⟨e.V,oF (T.r e.i.u.toNat) (be e.i.op)⟩]else [])++wl prog (e6 prog T e).1 l:=rfl
def jh{e}{k}:gj e k=true↔ak e.i.op=k:=by unfold gj;exact decide_eq_true_iff
def ql{e}(h:Aw e=false)(b:ak e.i.op=4):e.known=true∧e.halt=0:=by
 unfold Aw at h;rw[jh.2 b]at h;cases a:e.known<;>simp[a]at h⊢
 exact h
theorem qx{prog:List Nat}:∀{T:St} {l:List ai},h6 prog T l->l.any Aw=false->∀i,gb (c8 prog T l).mem i=(fi (wl prog T l) i).or (gb T.mem i)
 |T,[],_,_,i=>rfl
 | T,e::l,h,b,i=>by
  rw[List.any_cons,dP]at b;have c:=vD h.1;rw[l0,qx h.2 b.2];rw[qw,qo];by_cases a:ak e.i.op=4
  ·let⟨d,g⟩:=ql b.1 a;let⟨_,f⟩:=h.1.ZB d (.inr a);rw[(c.2 a d).2.1,aa (jh.2 a),vz _ _ _ (by rw[mP];exact(na f).2)];show _=((fi _ i).or ((dg _ i).or none)).or _;rw[Option.or_none,Option.or_assoc]
  ·rw[c.1 a,dZ (λq=>a (jh.1 q))];show _=((fi _ i).or none).or _;rw[Option.or_none]
def Al(s:Std)(p:Pt):Prop:=s.V=p.V∧s.size=p.data.size∧(s.there=true->s.data=p.data)
def jy:List Std->List Pt->Prop
 |[],[]=>True
 |s::l,p::k=>Al s p∧jy l k
 |_,_=>False
theorem qy:∀{a:List Std} {p:List Pt} {b:List Std} {q:List Pt},jy a p->jy b q->jy (a++b) (p++q)
 |[],[],_,_,_,h=>h
 |_::_,_::_,_,_,⟨c,d⟩,h=>⟨c,qy d h⟩
 |[],_::_,_,_,h,_=>h.elim
 |_::_,[],_,_,h,_=>h.elim
theorem qz:∀{a:List Std} {p:List Pt},jy a p->jy a.reverse p.reverse
 |[],[],_=>trivial
 |_::_,_::_,⟨b,c⟩=>by rw[List.reverse_cons,List.reverse_cons];exact qy (qz c) ⟨b,trivial⟩
 |[],_::_,h=>h.elim
 |_::_,[],h=>h.elim
theorem u':∀(l:List Pt),jy (l.map CY) l
 |[]=>trivial
 |p::l=>⟨⟨rfl,rfl,λ_=>rfl⟩,u' l⟩
theorem vx{prog:List Nat}:∀{T:St} {l:List ai},h6 prog T l->l.any Aw=false->jy ((l.filter λe=>gj e 4).map Fg) (wl prog T l)
 |T,[],_,_=>trivial
 | T,e::l,h,b=>by
  rw[List.any_cons,dP]at b;have ih:=vx h.2 b.2;rw[qw];by_cases a:ak e.i.op=4
  ·let⟨f,g⟩:=ql b.1 a;have c:=((vD h.1).2 a f).2.2;rw[List.filter_cons_of_pos (p:=λe=>gj e 4) (jh.2 a),aa (jh.2 a)];refine⟨⟨rfl,(mP _ _).symm,λd=>c ?_⟩,ih⟩;exact a6 d
  ·rw[List.filter_cons_of_neg (p:=λe=>gj e 4) (λq=>a (jh.1 q)),dZ (λq=>a (jh.1 q))];exact ih
def kz:List Pt->Nat->Option UInt8
 |[],_=>none
 |p::l,i=>(dg p i).or (kz l i)
theorem oI:∀(a b:List Pt) (i:Nat),kz (a++b) i=(kz a i).or (kz b i)
 |[],_,_=>rfl
 |p::a,b,i=>by show(dg p i).or (kz (a++b) i)=_;rw[oI a b, <-Option.or_assoc];rfl
theorem m6:∀(l:List Pt) (i:Nat),kz l.reverse i=fi l i
 |[],_=>rfl
 |p::l,i=>by
  rw[List.reverse_cons,oI,m6 l,l1];show _=_;congr 1;show(dg p i).or none=_;rw[Option.or_none]
theorem vm{at_ n:Nat}(o:0<n):∀{L:List Std} {P:List Pt},jy L P->
  ((xK at_ n L).1=2->∀j,j<n->kz P (at_+j)=none)∧
  ((xK at_ n L).1=1->(xK at_ n L).2.size=n∧∀j,j<n->kz P (at_+j)=gb (xK at_ n L).2 j)
 |[],[],_=>⟨λ_ _ _=>rfl,λh=>by cases h⟩
 |[],_::_,h=>h.elim
 |_::_,[],h=>h.elim
 | s ::L,p::P,⟨⟨f,k,l⟩,h⟩=>by
  have ih:=vm (at_:=at_) o h;unfold xK;have c:∀j,ia s.V s.size at_ n=false->j<n->dg p (at_+j)=none:=λj b a=>by
   unfold ia at b;simp[Bool.and_eq_false_iff,mA]at b;unfold dg;split
   ·refine j8 ?_;rw[<-k, <-f];rename_i q;rw[<-f]at q;omega
   ·rfl
  split
  ·rename_i b;refine⟨λq j a=>?_,λq=>⟨(ih.2 q).1,λj a=>?_⟩⟩
   ·show(dg p _).or _=none;rw[c j b a,ih.1 q j a];rfl
   ·show(dg p _).or _=_;rw[c j b a,(ih.2 q).2 j a];rfl
  ·split
   ·exact⟨nofun,nofun⟩
   ·rename_i b g
    have e:Fh s.V s.size at_ n=true:=by cases d:Fh s.V s.size at_ n with
     |true=>rfl
     |false=>exact absurd (.inl d) g
    have i:s.there=true:=by cases d:s.there with
     |true=>rfl
     |false=>exact absurd (.inr d) g
    unfold Fh at e;simp[aP,aY]at e;have m:=l i;rw[m];refine⟨nofun,λ_=>⟨?_,λj a=>?_⟩⟩
    ·show(p.data.extract _ _).size=n;rw[dA];omega
    ·show(dg p (at_+j)).or _=gb (p.data.extract _ _) j;rw[j9,aa ad];unfold dg;rw[aa ad,(oT:at_+j-p.V=at_-s.V+j)];have:gb p.data (at_-s.V+j)≠none:=by
      unfold gb;rw[Ne,Array.getElem?_eq_none_iff];have:p.data.data.size=p.data.size:=rfl;omega
     cases d:gb p.data (at_-s.V+j)with
     |none=>exact absurd d this
     |some v=>rfl
def jt(e x:ai):Bool:= !gj x 4||(x.known&&decide (x.halt=0)&& !ia x.V (be x.i.op) e.V (be e.i.op))
def my{e x}:jt e x=true↔(ak x.i.op=4->x.known=true∧x.halt=0∧ia x.V (be x.i.op) e.V (be e.i.op)=false):=by
 unfold jt;by_cases a:ak x.i.op=4
 ·rw[jh.2 a];simp[a,uK]
 rw[show gj x 4=false by cases h:gj x 4 with|false=>rfl|true=>exact absurd (jh.1 h) a];simp[a]
theorem va{at_ n:Nat}:∀{L:List Std},(xK at_ n L).1=2->∀s∈L,ia s.V s.size at_ n=false
 |[],_,s,h=>by cases h
 | x::L,a,s,h=>by
  unfold xK at a;split at a
  ·rename_i b;rcases dn.1 h with rfl|h
   ·exact b
   ·exact va a s h
  ·split at a
   ·cases a
   ·cases a
def H1{agI}{agF}{i}{e}(d:agI[i]?=some e)(h:(lL agI agF i).1=2):(agI.take i).all (jt e)=true:=by
 unfold lL at h;rw[d]at h;simp only at h;split at h
 ·cases h
 split at h
 ·cases h
 rename_i g;rw[rC];intro x c;refine my.2 λa=>?_;have b:Aw x=false:=by
  cases f:Aw x with
  |false=>rfl
  |true=>exact absurd (Mv.2 ⟨x,c,f⟩) g
 let⟨j,k⟩:=ql b a;refine⟨j,k,?_⟩;apply va h (Fg x);unfold FW;rw[cz,List.mem_reverse,pG];exact .inl ⟨x,List.mem_filter.2 ⟨c,jh.2 a⟩,rfl⟩
def E7{e}{l:List ai}(h:l.all (jt e)=true):l.any Aw=false:=by
 rw[List.any_eq_false];intro x b a;have:=my.1 (rC.1 h x b);unfold Aw at a;rw[aP,jh]at a;let⟨c,d,_⟩:=this a.1;rw[c,d]at a;simp at a
theorem we{prog:List Nat}:∀{T:St} {l:List ai} {p:Pt},p∈wl prog T l->∃x∈l,ak x.i.op=4∧p.V=x.V∧p.data.size=be x.i.op
 |T,[],p,h=>by cases h
 | T,e::l,p,h=>by
  rw[qw,cz]at h;rcases h with h|h
  ·split at h
   ·rename_i a;rw[uJ]at h;subst h;exact⟨e,b_,jh.1 a,rfl,mP _ _⟩
   ·cases h
  ·let⟨x,b,h⟩:=we h;exact⟨x,bY _ b,h⟩
def H2{a b}{k n}(d:a.size=b.size)(e:k+n<=a.size)(h:∀j,j<n->gb a (k+j)=gb b (k+j)):Cv a k n=Cv b k n:=by
 unfold Cv;refine mw (by rw[dA,dA,d]) λj c=>?_;rw[dA]at c;rw[j9,j9, <-d,aa c,aa c];exact h j ad
def vb{prog:List Nat}{T:St}{l:List ai}{e:ai}(h:h6 prog T l)(a:l.all (jt e)=true)(k:kZ T.mem.size e.V (be e.i.op)=true):Cv (c8 prog T l).mem e.V (be e.i.op)=Cv T.mem e.V (be e.i.op):=by
 let⟨o,g⟩:=na k;refine H2 (ko l) (by rw[ko];exact g) λj n=>?_;have c:∀p∈wl prog T l,dg p (e.V+j)=none:=by
  intro p hp;let⟨x,m,i,d,f⟩:=we hp;let⟨_,_,b⟩:=my.1 (rC.1 a x m) i;unfold ia at b;simp[Bool.and_eq_false_iff,mA]at b;unfold dg;split
  ·apply j8;rw[f];rename_i q;rw[d]at q⊢;omega
  rfl
 rw[qx h (E7 a),qr c];rfl
def FX{prog:List Nat}{T:St}{agI:List ai}{agF:List Pt}{u:Nat->Option UInt8}(h:h6 prog T agI){i:Nat}{e:ai}(f:agI[i]?=some e)(n:kZ T.mem.size e.V (be e.i.op)=true)
  (o:∀i,i<T.mem.size->gb T.mem i=(fi agF i).or (u i)) (a:(lL agI agF i).1=1):(lL agI agF i).2=Cv (c8 prog T (agI.take i)).mem e.V (be e.i.op):=by
 obtain⟨t,r⟩:=na n;obtain⟨s,q⟩:=Em.1 f;have d:h6 prog T (agI.take i):=by
  have:agI=agI.take i++agI.drop i:=(ki _ _).symm;rw[this]at h;exact(m3.1 h).1
 unfold lL at a⊢;rw[f]at a⊢;simp only at a⊢;split at a
 ·cases a
 rename_i k;split at a
 ·cases a
 rename_i b;rw[dZ k,dZ b]
 have b:(agI.take i).any Aw=false:=by cases m:(agI.take i).any Aw with
  |false=>rfl
  |true=>exact absurd m b
 have l:jy (FW (agI.take i) agF) ((wl prog T (agI.take i)).reverse++agF.reverse):=qy (qz (vx d b)) (qz (u' agF));obtain⟨s1,ar⟩:=(vm (at_:=e.V) (n:=be e.i.op) ad l).2 a;unfold Cv;refine mw (by rw[s1,dA,ko];omega) λj c=>?_;rw[s1]at c;rw[j9,aa (by rw[ko];omega), <-ar j c,qx d b,o _ ad,oI,m6,m6];have g:(fi (wl prog T (agI.take i)) (e.V+j)).or (fi agF (e.V+j))≠none:=by
  rw[<-m6, <-m6 (l:=agF), <-oI,ar j c];unfold gb;rw[Ne,Array.getElem?_eq_none_iff];have:(xK e.V (be e.i.op) (FW (agI.take i) agF)).2.data.size=_:=s1;omega
 rw[<-Option.or_assoc]
 cases p:(fi (wl prog T (agI.take i)) (e.V+j)).or (fi agF (e.V+j))with
 |none=>exact absurd p g
 |some v=>rfl
structure RI(prog:List Nat)(s:St)(l:List ai):Prop where
 ok:h6 prog s l
 X:∀i e,l[i]?=some e->e.is=2->(l.take i).all (jt e)=true
theorem q1{prog:List Nat}:∀{T:St} {l:List ai},(∀k e,l[k]?=some e->dm prog (c8 prog T (l.take k)) e)->h6 prog T l
 |T,[],_=>trivial
 |T,e::l,h=>⟨h 0 e rfl,q1 λk x a=>h (k+1) x a⟩
theorem RI.take{prog}{s}{l}(h:RI prog s l)(n):RI prog s (l.take n):=by
 refine⟨q1 λk e bb=>?_,λi e bb h2=>?_⟩
 all_goals
  rw[cU]at bb;split at bb
  ·rename_i a;rw[List.take_take,lq ad]
   first|exact jg h.ok bb|exact h.X i e bb h2
  cases bb
def F2{e b x a}(j:a.i=x.i)(k:ak x.i.op=4->x.known=true->x.halt=0->a.known=true∧a.halt=0∧a.V=x.V)(d:b.i=e.i∧b.V=e.V)(h:jt e x=true):jt b a=true:=by
 refine my.2 λc=>?_;rw[j]at c⊢;let⟨f,g,i⟩:=my.1 h c;let⟨l,m,n⟩:=k c f g;exact⟨l,m,by rw[n,d.1,d.2];exact i⟩
structure fl(e e':ai):Prop where
 L:e'.L=e.L
 i:e'.i=e.i
 g:e'.M=e.M
 st:ak e.i.op=4->e.known=true->e.halt=0->e'.known=true∧e'.halt=0∧e'.V=e.V
theorem fl.refl(e):fl e e:=⟨rfl,rfl,rfl,λ_ a b=>⟨a,b,rfl⟩⟩
def rb{l a:List ai}(f:a.length=l.length)(h:∀(k:Nat) e c,l[k]?=some e->a[k]?=some c->fl e c):a.map (λe=>(e.L,e.M))=l.map (λe=>(e.L,e.M)):=by
 apply dD;intro k;rw[aX,aX]
 cases b:l[k]? with
 |none=>rw[bE (by rw[f];exact List.getElem?_eq_none_iff.1 b)]
 |some e=>
  let⟨g,_⟩:=Em.1 b;have d:=aA (l:=a) (i:=k) ad;rw[d];have:=h k e _ b d;simp[this.L,this.g]
theorem RI.YP{prog}{s}{l d}(h:RI prog s l)(u:d.length=l.length)(g:∀(k:Nat) e a,l[k]?=some e->d[k]?=some a->fl e a)
  (hk:∀(k:Nat) e a,l[k]?=some e->d[k]?=some a->dm prog (c8 prog s (l.take k)) e->dm prog (c8 prog s (l.take k)) a)
  (r:∀(k:Nat) e a,l[k]?=some e->d[k]?=some a->a.is=2->(e.is=2∧a.V=e.V)∨(d.take k).all (jt a)=true):RI prog s d:=by
 have f:∀k a,d[k]?=some a->∃e,l[k]?=some e:=λk a c=>by
  let⟨hk,_⟩:=Em.1 c;exact⟨_,aA ad⟩
 have hp:∀k,(d.take k).map _=(l.take k).map _:=λk=>by
  have:=ax (List.map Prod.fst) (rb u g);rw[List.map_map,List.map_map]at this;rw[eO,eO];exact ax _ this
 refine⟨q1 λk a c=>?_,λk a c q=>?_⟩
 ·let⟨e,h1⟩:=f k a c;rw[vk prog s _ _ (hp k)];exact hk k e a h1 c (jg h.ok h1)
 let⟨e,h1⟩:=f k a c;rcases r k e a h1 c q with ⟨o,p⟩|b
 ·have:=h.X k e h1 o;rw[rC]at this⊢;intro n m;let⟨j,hj⟩:=List.mem_iff_getElem?.1 m;rw[cU]at hj;split at hj
  ·rename_i i;let⟨x,hx⟩:=f j n hj;have t:=g j x n hx hj;exact F2 t.i t.st ⟨(g k e a h1 c).i,p⟩ (this x (List.mem_iff_getElem?.2 ⟨j,by rw[cU,aa i];exact hx⟩))
  cases hj
 exact b
theorem RI.map{prog}{s}{l}(h:RI prog s l)(f)(j:∀e∈l,fl e (f e))(i:∀k e,l[k]?=some e->dm prog (c8 prog s (l.take k)) e->dm prog (c8 prog s (l.take k)) (f e))(g:∀e∈l,(f e).is=2->e.is=2∧(f e).V=e.V):RI prog s (l.map f):=by
 have d:∀k e c,l[k]?=some e->(l.map f)[k]?=some c->c=f e:=λk e c a b=>by
  rw[aX,a]at b;injection b with b;exact b.symm
 refine h.YP (aH ..) (λk e c a b=>?_) (λk e c a b q=>?_) (λk e c a b q=>?_)
 ·rw[d k e c a b];exact j e (aB a)
 ·rw[d k e c a b];exact i k e a q
 rw[d k e c a b]at q⊢;exact .inl (g e (aB a) q)
theorem RI.set{prog}{s}{l}(h:RI prog s l){k}{e f}(m:l[k]?=some e)(p:fl e f)(o:dm prog (c8 prog s (l.take k)) e->dm prog (c8 prog s (l.take k)) f)(n:f.is=2->(e.is=2∧f.V=e.V)∨(l.take k).all (jt f)=true):RI prog s (l.set k f):=by
 let⟨bb,_⟩:=Em.1 m;have g:∀j x d,l[j]?=some x->(l.set k f)[j]?=some d->(j=k∧x=e∧d=f)∨(j≠k∧d=x):=λj x d c a=>by
  by_cases i:j=k
  ·subst i;rw[aZ bb]at a;rw[m]at c;injection c with c;injection a with a;exact .inl ⟨rfl,c.symm,a.symm⟩
  rw[kX (λq=>i q.symm),c]at a;injection a with a;exact .inr ⟨i,a.symm⟩
 refine h.YP (cC ..) (λj x d c a=>?_) (λj x d c a q=>?_) (λj x d c a q=>?_)
 ·rcases g j x d c a with ⟨rfl,rfl,rfl⟩|⟨_,rfl⟩
  ·exact p
  exact fl.refl _
 ·rcases g j x d c a with ⟨rfl,rfl,rfl⟩|⟨_,rfl⟩
  ·exact o q
  exact q
 rcases g j x d c a with ⟨rfl,rfl,rfl⟩|⟨_,rfl⟩
 ·rcases n q with b|b
  ·exact .inl b
  exact .inr (by rw[List.take_set_of_le (aC _)];exact b)
 exact .inl ⟨q,rfl⟩
def v5(e)(a:ak e.i.op=4->e.is≠1):fl e (a0 e):=by
 unfold a0;split
 ·exact fl.refl _
 rename_i h;split<;>exact⟨rfl,rfl,rfl,λq=>absurd q (λq=>a q ad)⟩
def vc(e)(b):fl e (uF e b):=by
 unfold uF;split
 ·exact fl.refl _
 exact⟨rfl,rfl,rfl,λ_ a b=>⟨a,b,rfl⟩⟩
def m7(e)(s):fl e (uM e s):=by
 unfold uM;split
 ·exact fl.refl _
 exact⟨rfl,rfl,rfl,λ_ a b=>⟨a,b,rfl⟩⟩
def vd(e)(a b):fl e (rJ e a b):=by
 unfold rJ
 (repeat' split)<;>first|exact fl.refl _|exact⟨rfl,rfl,rfl,λq=>absurd q ad⟩
def m8(e)(n)(a):fl e (yC e n a):=by
 unfold yC;split
 ·exact fl.refl _
 rename_i b;split<;>exact⟨rfl,rfl,rfl,λ_ q=>absurd (.inr (.inr q)) b⟩
theorem RI.go{prog}{s}{l}(h:RI prog s l):RI prog s (l.map a0):=by
 refine h.map a0 (λe b=>?_) (λk e _ q=>(K_ q).1) (λe b q=>?_)
 ·let⟨k,hk⟩:=List.mem_iff_getElem?.1 b;exact v5 e (jg h.ok hk).Zt
 unfold a0 at q⊢;split at q
 ·rename_i a;rw[aa a];exact⟨q,rfl⟩
 split at q
 ·cases q
 rename_i a _;have q:e.is=2:=q;omega
theorem RI.putAt{prog}{s}{l}(h:RI prog s l)(j:s.r 0=0)(i):RI prog s (e9 s.r l i)∧(e9 s.r l i).length=l.length∧(e9 s.r l i).map (λe=>(e.L,e.M))=l.map (λe=>(e.L,e.M)):=by
 unfold e9;split
 ·rename_i e d;split
  ·split
   ·rename_i b g;let⟨bb,_⟩:=Em.1 d;refine⟨h.set d (vc e b) (λq=>(HX q (vv h.ok j (Nat.le_of_lt bb) g)).1) (λq=>.inl ?_),cC ..,?_⟩
    ·unfold uF at q⊢;split at q
     ·rename_i c;rw[aa c];exact⟨q,rfl⟩
     cases q
    refine rb (cC ..) λk x m c a=>?_;by_cases f:i=k
    ·subst f;rw[aZ bb]at a;rw[d]at c;injection c with c;injection a with a;subst c a;exact vc _ _
    rw[kX f,c]at a;injection a with a;subst a;exact fl.refl _
   exact⟨h,rfl,rfl⟩
  exact⟨h,rfl,rfl⟩
 exact⟨h,rfl,rfl⟩
theorem RI.Y0{prog:List Nat}{s:St}{l:List ai}(h:RI prog s l)(a:s.r 0=0):∀n,RI prog s (bv s.r l n)∧(bv s.r l n).length=l.length∧(bv s.r l n).map (λe=>(e.L,e.M))=l.map (λe=>(e.L,e.M))
 |0=>⟨h,rfl,rfl⟩
 |n+1=>by
  let⟨h1,h2,h3⟩:=h.Y0 a n;let⟨bb,b4,cs⟩:=h1.putAt a n;exact⟨bb,b4.trans h2,cs.trans h3⟩
def j':Nat->List (Nat×Nat)->Nat->Prop
 |a,[],z=>a=z
 |a,p::l,z=>p.1=a∧j' p.2 l z
theorem m4:∀{a:Nat} {l m:List (Nat×Nat)} {z:Nat},j' a (l++m) z↔∃y,j' a l y∧j' y m z
 |a,[],m,z=>⟨λh=>⟨a,rfl,h⟩,λ⟨y,b,c⟩=>by cases b;exact c⟩
 |a,p::l,m,z=>by
  show p.1=a∧j' p.2 (l++m) z↔_;rw[m4];exact⟨λ⟨h,y,b,c⟩=>⟨y,⟨h,b⟩,c⟩,λ⟨y,⟨h,b⟩,c⟩=>⟨h,y,b,c⟩⟩
def h7(l:List ai):List (Nat×Nat):=l.map λe=>(e.L,e.M)
def mz(l:List Ft):List (Nat×Nat):=l.map λf=>(f.L,f.M)
def q_(prog:List Nat)(f:Ft):Prop:=(gz prog f.L->ak (bn (bi prog f.L)).op≠5)->f.M=b8 f.L
structure Iv(prog:List Nat)(c:Co)(s:St):Prop where
 pr:c.prog=prog
 r:c.r=s.r
 z:s.r 0=0
 mem:Xr c=s.mem
 halt:c.halt=s.halt
 hl:c.halt≠0->c.Z=[]
 ri:RI prog s c.Z
 ch:c.halt=0->∃z,j' s.L (h7 c.Z++mz c.O) z∧(c.stop=false->c.K=z)
 Y1:∀f∈c.O,q_ prog f
theorem Iv.same{prog}{c d}{s}(h:Iv prog c s)(f:d.prog=c.prog)(g:d.r=c.r)(i:Xr d=Xr c)(a:d.halt=c.halt)(e:d.O=c.O)(j:d.K=c.K)(k:d.stop=c.stop)(b:h7 d.Z=h7 c.Z)(l:RI prog s d.Z):Iv prog d s:=by
 refine⟨f.trans h.pr,g.trans h.r,h.z,i.trans h.mem,a.trans h.halt,λq=>?_,l,λq=>?_,by rw[e];exact h.Y1⟩
 ·have:=h.hl (by rwa [a]at q);rw[this]at b;exact List.map_eq_nil_iff.1 b
 rw[b,e,k,j];exact h.ch (by rwa [a]at q)
theorem Iv.fill{prog}{c}{s}(f:RI prog s c.Z)(j:Xr c=s.mem)(agY):RI prog s (c.Z.map (wO c agY))∧h7 (c.Z.map (wO c agY))=h7 c.Z:=by
 have d:∀e,fl e (wO c agY e):=λe=>by
  unfold wO;split
  ·have:=m7 {e with Z4:=true} (oL c e);exact⟨this.L,this.i,this.g,this.st⟩
  exact fl.refl _
 refine⟨f.map _ (λe _=>d e) (λk e h q=>?_) (λe _ q=>?_),?_⟩
 ·unfold wO;split
  ·rename_i b;refine(qv (e:={e with Z4:=true}) ⟨q.ins,q.Zy,q.told,q.wait,q.ZB,q.st,q.X,q.run,q.Zt,q.ahead,q.Zg,q.YW,q.gs⟩ λi g _=>?_).1;let⟨_,bb⟩:=q.ZB i (.inl g);rw[ko]at bb;show oL c e=_;unfold oL;rw[j,aa bb];exact(vb ((f.take k).ok) (f.X k e h b.1) bb).symm
  exact q
 ·unfold wO at q⊢;split at q
  ·rename_i a;rw[aa a];unfold uM at q⊢;split at q
   ·rename_i b;rw[aa b];exact⟨q,rfl⟩
   cases q
  rename_i a;rw[dZ a];exact⟨q,rfl⟩
 unfold h7;rw[List.map_map];exact iB λe _=>by show(_,_)=_;rw[(d e).L,(d e).g]
theorem Iv.ZC{prog}{c}{s}(h:Iv prog c s)(b:c.mc)(e:∀x∈c.X,x.ok):Iv prog (lM c) s:=by
 have d:(lM c).W=c.W:=by
  unfold lM ID oK
  (repeat' split)<;>rfl
 have a:=nc (m_ b e) d
 revert a
 unfold lM;split
 rename_i q x ok _;split
 ·unfold ID;split
  ·intro a;let⟨f1,f2⟩:=Iv.fill (c:={c with X:=q}) h.ri (a.trans h.mem) x.R;exact h.same rfl rfl a rfl rfl rfl rfl f2 f1
  split
  ·exact λa=>h.same rfl rfl a rfl rfl rfl rfl rfl h.ri
  split
  ·intro a;unfold oK at a⊢;exact h.same rfl rfl a rfl rfl rfl rfl rfl h.ri
  split
  ·exact λa=>h.same rfl rfl a rfl rfl rfl rfl rfl h.ri
  exact λa=>h.same rfl rfl a rfl rfl rfl rfl rfl h.ri
 exact λa=>h.same rfl rfl a rfl rfl rfl rfl rfl h.ri
def NW(l:List ai):Prop:=∀e∈l,Nj e=false
theorem Iv.ZH{prog}{c}{s}(h:Iv prog c s):Iv prog (kK c) s∧NW (kK c).Z:=by
 unfold kK;split
 ·rename_i d;exact⟨h,by rw[h.hl d];intro e b;cases b⟩
 rename_i d;have d:c.halt=0:=b'.1 d;let⟨b4,ds,c'⟩:=(h.ri.go).Y0 h.z c.Z.length;have B:bt c=bv s.r (c.Z.map a0) c.Z.length:=by unfold bt;rw[h.r]
 rw[<-B]at b4 ds c';have r:h7 (bt c)=h7 c.Z:=by
  unfold h7;rw[c',List.map_map];refine iB λe b=>?_;let⟨k,hk⟩:=List.mem_iff_getElem?.1 b;have:=v5 e (jg h.ri.ok hk).Zt;show(_,_)=_;rw[this.L,this.g]
 split
 ·rename_i i u;unfold yD at u;let⟨cs,bb,dr⟩:=List.findIdx?_eq_some_iff_getElem.1 u;have b:(bt c)[i]?=some (bt c)[i]:=aA cs;generalize A:(bt c)[i]=e at b bb;rw[b];have n:dk (bt c) i=(bt c).take i++[{e with M:=e.next}]:=by unfold dk;rw[b]
  rw[n];have l:ak e.i.op=5∧e.known=true∧e.next≠e.M:=by
   unfold Nj at bb;simp[aP,aY]at bb;exact⟨bb.1.1,bb.1.2,bb.2⟩
  have m:=b4.take i;have a:=jg b4.ok b;have g:RI prog s ((bt c).take i++[{e with M:=e.next}]):=by
   refine⟨m3.2 ⟨m.ok,⟨a.ins,a.Zy,a.told,a.wait,a.ZB,a.st,a.X,a.run,a.Zt,a.ahead,a.Zg,a.YW,λq=>?_⟩,trivial⟩,λj x hj h2=>?_⟩
   ·by_cases t:gz prog e.L
    ·exact absurd l.1 (q t)
    have:=(a.Zy t).2;rw[this]at l;exact absurd l.1 dT
   by_cases c0:j<i
   ·have o:j<((bt c).take i).length:=by rw[aM];omega
    rw[cF o]at hj;rw[List.take_append_of_le_length ad];exact m.X j x hj h2
   have o:((bt c).take i).length=i:=by rw[aM];omega
   rw[bM ad,o]at hj;rcases fm (j-i) 1 with q|q
   ·rw[(oT:j-i=0)]at hj;injection hj with hj;subst hj;have D:=(a.X h2).1;exact absurd l.1 ad
   rw[bE (sU q)]at hj;cases hj
  refine⟨⟨h.pr,h.r,h.z,h.mem,h.halt,λq=>absurd d q,g,λ_=>?_,λf C=>by cases C⟩,?_⟩
  ·let⟨gf,hz,_⟩:=h.ch d;let⟨y,hy,_⟩:=m4.1 hz;rw[<-r]at hy;have w:bt c=(bt c).take i++(e::(bt c).drop (i+1)):=by
    rw[<-A, <-bF cs,ki]
   rw[w]at hy;unfold h7 at hy;rw[dH]at hy;let⟨em,h1,h2⟩:=m4.1 hy;refine⟨e.next,?_,λ_=>rfl⟩;show j' s.L (h7 _++[]) _;rw[dY];unfold h7;rw[dH];exact m4.2 ⟨em,h1,h2.1,rfl⟩
  intro x hx;rcases cz.1 hx with hx|hx
  ·let⟨j,hj⟩:=List.mem_iff_getElem?.1 hx;rw[cU]at hj;split at hj
   ·rename_i v;let⟨fz,c0⟩:=Em.1 hj;have:=dr j v;rw[c0]at this;exact Bool.eq_false_iff.2 this
   cases hj
  rw[uJ]at hx;subst hx;unfold Nj;simp
 rename_i p;unfold yD at p;rw[List.findIdx?_eq_none_iff]at p;exact⟨h.same rfl rfl rfl rfl rfl rfl rfl r b4,λe b=>p e b⟩
def I8(a)(f)(prog):(qB a f prog).M=f.M∧(qB a f prog).is≠2:=by
 unfold qB;(repeat' split)<;>first|exact⟨rfl,(dT:(3:Int)≠2)⟩|exact⟨rfl,(dT:(0:Int)≠2)⟩
theorem Iv.enter{prog}{c}{s}(h:Iv prog c s){f}{l}(b:c.O=f::l)(e:c.halt=0):Iv prog {c with Z:=c.Z++[qB c.next f c.prog],next:=wrap64 (c.next+1),O:=l} s:=by
 let⟨bb,b4⟩:=H0 prog (c8 prog s c.Z) c.next f (h.Y1 f (by rw[b];exact b_));let⟨cs,c0⟩:=I8 c.next f prog;rw[h.pr];refine⟨rfl,h.r,h.z,h.mem,h.halt,λq=>absurd e q,⟨m3.2 ⟨h.ri.ok,bb,trivial⟩,λj x a d=>?_⟩,λ_=>?_,λx i=>h.Y1 x (by rw[b];exact bY _ i)⟩
 ·by_cases g:j<c.Z.length
  ·rw[cF g]at a;rw[List.take_append_of_le_length ad];exact h.ri.X j x a d
  rw[bM ad]at a;rcases fm (j-c.Z.length) 1 with q|q
  ·rw[(oT:j-c.Z.length=0)]at a;injection a with a;subst a;exact absurd d c0
  rw[bE (sU q)]at a;cases a
 let⟨dr,hz,c'⟩:=h.ch e;refine⟨dr,?_,c'⟩;rw[b]at hz;show j' s.L (h7 (c.Z++[_])++mz l) dr;unfold h7;rw[dH,eD];show j' s.L (h7 c.Z++((qB c.next f prog).L,(qB c.next f prog).M)::mz l) dr;rwa[b4,cs]
theorem Iv.Y7{prog:List Nat}{s:St}:∀(n:Nat) {c:Co},Iv prog c s->c.halt=0->Iv prog (kV n c) s∧(kV n c).halt=0
 |0,c,h,bb=>⟨h,bb⟩
 | n+1,c,h,bb=>by
  unfold kV;split
  ·exact⟨h,bb⟩
  ·split
   ·exact⟨h,bb⟩
   ·rename_i f l a;exact Iv.Y7 n (h.enter a bb) bb
theorem Iv.enters{prog}{c}{s}(h:Iv prog c s):Iv prog (lP c) s:=by
 unfold lP;split
 ·exact h
 rename_i a;exact(Iv.Y7 _ h (b'.1 a)).1
theorem Iv.K{prog}{c}{s}(h:Iv prog c s)(g:c.halt=0)(p:c.stop=false)(n)(st)(x)(r:st=false->x=n)(o:q_ prog ⟨c.K,n⟩){d}(i:d.prog=c.prog)(j:d.r=c.r)(k:Xr d=Xr c)(a:d.halt=c.halt)(b:d.O=c.O++[⟨c.K,n⟩])(l:d.K=x)(m:d.stop=st)(e:d.Z=c.Z):Iv prog d s:=by
 refine⟨i.trans h.pr,j.trans h.r,h.z,k.trans h.mem,a.trans h.halt,λq=>absurd (a.trans g) q,by rw[e];exact h.ri,λ_=>?_,λf hf=>?_⟩
 ·let⟨b4,hz,bb⟩:=h.ch g;refine⟨n,?_,λq=>by rw[l];exact r (by rw[<-m];exact q)⟩;rw[e,b];unfold mz;rw[dH, <-eD];exact m4.2 ⟨b4,hz,bb p,rfl⟩
 rw[b]at hf;rcases cz.1 hf with hf|hf
 ·exact h.Y1 f hf
 rw[uJ]at hf;subst hf;exact o
def E8(c)(w):(dM c w).1.prog=c.prog∧(dM c w).1.r=c.r∧Xr (dM c w).1=Xr c∧(dM c w).1.halt=c.halt∧(dM c w).1.O=c.O∧(dM c w).1.K=c.K∧(dM c w).1.stop=c.stop∧(dM c w).1.Z=c.Z∧((dM c w).1.data=c.data∧(dM c w).1.X=c.X∧(dM c w).1.mem=c.mem)∧(dw w=0∨ak (bn w).op≠5->(dM c w).2=b8 c.K):=by
 unfold dM;split
 ·exact⟨rfl,rfl,rfl,rfl,rfl,rfl,rfl,rfl,c9,λ_=>rfl⟩
 rename_i a;split<;>exact⟨rfl,rfl,rfl,rfl,rfl,rfl,rfl,rfl,c9,λq=>absurd q a⟩
theorem Iv.Zd{prog:List Nat}{s:St}:∀(n:Nat) {c:Co},Iv prog c s->c.mc->c.halt=0->Iv prog (eL n c) s
 |0,c,h,_,_=>h
 | n + 1,c,h,dr,ds=>by
  unfold eL;split
  ·exact h
  ·rename_i g
   have b:c.stop=false:=by cases q:c.stop with
    |false=>rfl
    |true=>exact absurd (.inl q) g
   have hp:=h.pr;split
   ·rename_i a;exact h.K ds b (b8 c.K) true c.K nofun (λ_=>rfl) rfl rfl rfl rfl rfl rfl rfl rfl
   ·rename_i a;split
    ·split
     ·exact h.same rfl rfl (nc (nh dr dT _ _) rfl) rfl rfl rfl rfl rfl h.ri
     ·exact h
    ·let⟨em,fz,gf,b4,ha,hb,hc,hd,⟨hg,c0,c'⟩,bb⟩:=E8 {c with y:=tO c.y (ab c.K)} (bi c.prog c.K);generalize j:dM {c with y:=tO c.y (ab c.K)} (bi c.prog c.K)=B at *;let⟨d,cs⟩:=B;simp only at em fz gf b4 ha hb hc hd hg c0 c' bb⊢;rw[hp]at bb a;have e:q_ prog ⟨c.K,cs⟩:=λq=>bb (by
      by_cases f:dw (bi prog c.K)=0
      ·exact .inl f
      ·refine .inr (q ⟨?_,f⟩)
       cases i:(en prog c.K).isSome with
       |true=>rfl
       |false=>exact absurd i a)
     refine Iv.Zd n (h.K ds b cs false cs (λ_=>rfl) e (d:=LU d cs) em fz gf b4 (by show d.O++[⟨d.K,cs⟩]=_;rw[ha,hb]) rfl (by show d.stop=false;rw[hc];exact b) hd) ?_ (b4.trans ds);exact es dr hg c0 c'
theorem Iv.Y3{prog}{c}{s}(h:Iv prog c s)(a:c.mc):Iv prog (eN c) s:=by
 unfold eN;split
 ·exact h
 rename_i b;exact h.Zd _ a (b'.1 b)
theorem Iv.Zm{prog}{c}{s}(h:Iv prog c s)(a:c.mc):Iv prog (tY c) s:=by
 let⟨_,hA,_⟩:=wx a;have b:(tY c).prog=c.prog∧(tY c).r=c.r∧(tY c).halt=c.halt∧(tY c).O=c.O∧(tY c).K=c.K∧(tY c).stop=c.stop∧(tY c).Z=c.Z:=by
  unfold tY nP pE tW aW jE
  (repeat' split)<;>exact⟨rfl,rfl,rfl,rfl,rfl,rfl,rfl⟩
 let⟨s1,ar,s3,dj,ea,ct,eb⟩:=b;exact h.same s1 ar hA s3 dj ea ct (by rw[eb]) (by rw[eb];exact h.ri)
def j2(prog:List Nat):St->List Sp->St->Prop
 |s,[],t=>t=s
 |s,x::l,t=>s.halt=0∧x=(gE prog s).2∧j2 prog (gE prog s).1 l t
theorem v6{prog:List Nat}:∀{s t u:St} {l m:List Sp},j2 prog s l t->j2 prog t m u->j2 prog s (l++m) u
 |s,t,u,[],m,h,k=>by rw[show t=s from h]at k;exact k
 |s,t,u,x::l,m,h,k=>⟨h.1,h.2.1,v6 h.2.2 k⟩
def F3{m}{a}{b}(h:a+b.size<=m.size):BE m ⟨a,b⟩=DD m a b:=by
 have c:(BE m ⟨a,b⟩).size=m.size:=iY m [⟨a,b⟩];refine mw (c.trans (u_ m a b h).symm) λi d=>?_;rw[wg m ⟨a,b⟩ i ad,vz m a b h]
def v7{e}(h:(cA e).halt=0):e.halt=0∧((cA e).store=true->ak e.i.op=4)∧(cA e).next=(if ak e.i.op=5 then e.next else b8 e.L)∧(ak e.i.op=3->(cA e).V=e.V):=by
 unfold cA at h⊢;split at h
 ·rename_i a;exact absurd h a
 rename_i a;rw[dZ a];refine⟨b'.1 a,?_,?_,?_⟩
 ·(repeat' split)<;>first|(intro _;assumption)|(intro q;cases q)
 ·(repeat' split)<;>first|rfl|omega
 intro b;rw[dZ ad,aa b]
theorem Iv.Zk{prog}{c}{s}(h:Iv prog c s)(M:NW c.Z)(H:c.mc){e}{l}(D:c.Z=e::l)(G:e.ok)(E:e.is=3)(w:c.halt=0):
  s.halt=0∧cA e=(gE prog s).2∧((cA e).halt≠0->Iv prog (tM c (cA e)) (gE prog s).1)∧((cA e).halt=0->Iv prog (vZ c e (cA e) l) (gE prog s).1∧(vZ c e (cA e) l).mc):=by
 have n:s.halt=0:=by rw[<-h.halt];exact w
 let⟨fz,hz,ha⟩:=h.ch w;rw[D]at hz;have I:e.L=s.L:=hz.1;have v:=h.ri;rw[D]at v;have B:dm prog s e:=v.ok.1;have J:(⟨e.L,s.r,s.mem,0⟩:St)=s:=by rw[I];let⟨a,b,c,d⟩:=s;simp only at n;subst n;rfl
 have A:e6 prog s e=gE prog s:=by unfold e6;rw[J]
 have j:cA e=(gE prog s).2:=by rw[<-A];exact B.told (.inr E)
 have r:=ov prog n;refine⟨n,j,λg=>?_,λg=>?_⟩
 ·let⟨ds,_,_⟩:=r.halt (by rw[<-j];exact g);rw[ds, <-j];exact⟨h.pr,h.r,h.z,h.mem,rfl,λ_=>rfl,⟨trivial,λi x g=>by cases g⟩,λq=>absurd q g,λf L=>by cases L⟩
 let⟨t1,t2,t3,t4⟩:=v7 g;let⟨r1,em⟩:=r.run (by rw[<-j];exact g);have y:e.M=(gE prog s).1.L:=by
  rw[em, <-j,t3];split
  ·rename_i hk;have:=M e (by rw[D];exact b_);unfold Nj at this;rw[B.YW hk E t1,jP hk]at this;simp only[kL,mA]at this;exact(b'.1 this).symm
  rename_i hk;exact B.gs λ_=>hk
 have N:(Xr c).size=s.mem.size:=by rw[h.mem]
 have t:(fZ c (cA e)).mc:=es H rfl rfl rfl;have m:(vG (fZ c (cA e)) e (cA e)).mc∧Xr (vG (fZ c (cA e)) e (cA e))=Xr (fZ c (cA e)):=by
  unfold vG;split
  ·rename_i hk;have F:=rk t (agY:=(cA e).V) (by rw[t4 hk];exact G.V);exact⟨F.mc,nc F rfl⟩
  exact⟨t,rfl⟩
 have C:Xr (fZ c (cA e))=(gE prog s).1.mem:=by
  rw[r.mem, <-j];split
  ·rename_i o;let⟨_,gf,bb⟩:=r.st (by rw[<-j];exact o);rw[<-j]at gf bb;let⟨k,hk⟩:∃k:Nat,(cA e).size=(k:Int):=⟨_,(lU ad).symm⟩;have u:iJ (cA e)=some ⟨(cA e).V,oF (cA e).value (cA e).size.toNat⟩:=by
    unfold iJ;rw[dZ (by rw[o,g];simp;omega)]
   show js (match iJ (cA e)with|some p=>c.W++[p]|none=>c.W) c.data c.X c.mem=_;rw[u];show rP (Ct c.data c.X c.mem) (c.W++[_])=_;unfold rP;rw[List.foldl_append];show BE (Xr c) _=_;rw[h.mem];apply F3;rw[hk]at bb⊢;rw[mP];exact(na bb).2
  rename_i o;have u:iJ (cA e)=none:=by
   unfold iJ;rw[aa (.inl (by cases q:(cA e).store with|false=>rfl|true=>exact absurd q o))]
  show js (match iJ (cA e)with|some p=>c.W++[p]|none=>c.W) c.data c.X c.mem=_;rw[u];exact h.mem
 have f1:(vG (fZ c (cA e)) e (cA e)).prog=c.prog∧(vG (fZ c (cA e)) e (cA e)).halt=c.halt∧(vG (fZ c (cA e)) e (cA e)).O=c.O∧(vG (fZ c (cA e)) e (cA e)).K=c.K∧(vG (fZ c (cA e)) e (cA e)).stop=c.stop:=by
  unfold vG oK;(repeat' split)<;>exact⟨rfl,rfl,rfl,rfl,rfl⟩
 let⟨c0,b4,cs,c',dr⟩:=f1;refine⟨⟨c0.trans h.pr,?_,?_,m.2.trans C,?_,λq=>?_,?_,λ_=>?_,?_⟩,es m.1 rfl rfl rfl⟩
 ·show lY c.r (cA e)=_;rw[r.r,h.r,j]
 ·rw[r.r];unfold lY;split
  ·show(if 0=_ then _ else _)=_;rw[dZ ad];exact h.z
  exact h.z
 ·show(vG _ _ _).halt=_;rw[b4,w,r1]
 ·have q:(vG (fZ c (cA e)) e (cA e)).halt≠0:=q;rw[b4]at q;exact absurd w q
 ·show RI prog _ l;refine⟨by rw[<-A];exact v.ok.2,λi x g K=>?_⟩;have:=v.X (i+1) x g K;rw[oP,List.all_cons,aP]at this;exact this.2
 ·refine⟨fz,?_,?_⟩
  ·show j' _ (h7 l++mz (vG _ _ _).O) fz;rw[cs, <-y];exact hz.2
  show(vG _ _ _).stop=false->(vG _ _ _).K=fz;rwa[dr,c']
 show ∀f∈(vG _ _ _).O,_;rw[cs];exact h.Y1
theorem Iv.Y6{prog:List Nat}:∀(n:Nat) {c:Co} {s:St},Iv prog c s->NW c.Z->c.mc->(∀e∈c.Z,e.ok)->∃l bb,(eC n c).N=c.N++l∧l.length<=n∧j2 prog s l bb∧Iv prog (eC n c) bb
 |0,c,s,h,_,_,_=>⟨[],s,(dY _).symm,aC _,rfl,h⟩
 | n + 1,c,s,h,hw,b4,ho=>by
  unfold eC;have b:∃l bb,c.N=c.N++l∧l.length<=n+1∧j2 prog s l bb∧Iv prog c bb:=⟨[],s,(dY _).symm,aE _,rfl,h⟩;split
  ·exact b
  ·rename_i g;have g:c.halt=0:=b'.1 g;split
   ·exact b
   ·rename_i e l d;split
    ·exact b
    ·rename_i f;have f:e.is=3:=b'.1 f;let⟨i1,i2,cs,c0⟩:=h.Zk hw b4 d (ho e (by rw[d];exact b_)) f g;split
     ·rename_i a;exact⟨[cA e],_,rfl,by simp,⟨i1,i2,rfl⟩,cs a⟩
     ·rename_i a;have a:(cA e).halt=0:=b'.1 a;split
      ·exact b
      ·let⟨c',dr⟩:=c0 a;let⟨m,bb,ds,em,fz,gf⟩:=Iv.Y6 n c' (λx a=>hw x (by rw[d];exact bY _ a)) dr (λx a=>ho x (by rw[d];exact bY _ a));refine⟨cA e::m,bb,?_,sU em,⟨i1,i2,fz⟩,gf⟩;rw[ds];have:(vZ c e (cA e) l).N=c.N++[cA e]:=by
        show(vG _ _ _).N=_;unfold vG oK;(repeat' split)<;>rfl
       rw[this,eD];rfl
def G9{agI}{j}{e b}(c:agI[j]?=some e)(f:b.i=e.i)(a)(k):LS (agI.set j b) a k=LS agI a k:=by
 let⟨g,_⟩:=Em.1 c;unfold LS;by_cases d:j=k
 ·subst d;rw[aZ g,c];simp[f]
 rw[kX d]
theorem vn{agI:List ai}{j:Nat}{e b:ai}(c:agI[j]?=some e)(d:b.i=e.i)(a:Int):∀n,ib (agI.set j b) a n=ib agI a n
 |0=>rfl
 |n+1=>by unfold ib;rw[G9 c d,vn c d a n]
def H4{agI}{j}{e d}(f:agI[j]?=some e)(l:d.i=e.i)(n:e.is=0){r}{i}{b}(a:(lK agI r i b).isSome=true):lK (agI.set j d) r i b=lK agI r i b:=by
 unfold lK gX at a⊢;rw[cC,vn f l];split
 ·rfl
 split
 ·rfl
 rename_i g h;rw[dZ g,dZ h]at a;split
 ·rfl
 rename_i k m;rw[m]at a;simp only at a;by_cases c:j=k
 ·subst c;rw[f]at a;simp only at a;rw[dZ ad]at a;cases a
 rw[kX c]
def Rd(agI:List ai)(r:Nat->Nat)(i:Nat):Prop:=∀e,agI[i]?=some e->e.is=0∧(ak e.i.op=3->e.known=true∨(lK agI r i e.i.j).isSome=true)∧(ak e.i.op=4->(lK agI r i e.i.j).isSome=true)∧(ak e.i.op≠3->ak e.i.op≠4->(lK agI r i e.i.j).isSome=true∧(lK agI r i e.i.u).isSome=true)
def m0{agI}{j}{e d}(t:agI[j]?=some e)(u:d.i=e.i)(s:e.is=0){r}{i}(f:j≠i)(h:Rd agI r i):Rd (agI.set j d) r i:=by
 intro x g;rw[kX f]at g;let⟨n,o,p,c⟩:=h x g;have b:∀a,(lK agI r i a).isSome=true->(lK _ r i a).isSome=true:=λa q=>by rw[H4 t u s q];exact q
 exact⟨n,λk=>(o k).imp id (b _),λk=>b _ (p k),λl m=>⟨b _ (c l m).1,b _ (c l m).2⟩⟩
def wv{c}{i}(h:DN c i=true):Rd c.Z c.r i:=by
 intro e a;unfold DN at h;rw[a]at h;simp only at h;split at h
 ·cases h
 rename_i b;refine⟨b'.1 b,λk=>?_,λk=>?_,λd f=>?_⟩
 ·rw[aa k,dE,aP]at h;exact h.imp id (·.1)
 ·rw[dZ ad,aa k,aP,aP]at h;exact h.1.2
 rw[dZ d,dZ f,aP]at h;unfold mI at h;rw[a]at h;simp[aP]at h;exact h.1
theorem Iv.put{prog}{c}{s}(h:Iv prog c s){j}{e a}(g:c.Z[j]?=some e)(i:fl e a)(f:dm prog (c8 prog s (c.Z.take j)) e->dm prog (c8 prog s (c.Z.take j)) a)(l:a.is=2->(e.is=2∧a.V=e.V)∨(c.Z.take j).all (jt a)=true):Iv prog (b1 c j a) s:=by
 refine h.same rfl rfl rfl rfl rfl rfl rfl ?_ (h.ri.set g i f l);let⟨hj,_⟩:=Em.1 g;refine rb (cC ..) λk x m d b=>?_;by_cases f:j=k
 ·subst f;rw[show(b1 c j a).Z=c.Z.set j a from rfl,aZ hj]at b;rw[g]at d;injection d with d;injection b with b;subst d b;exact i
 rw[show(b1 c j a).Z=c.Z.set j a from rfl,kX f,d]at b;injection b with b;subst b;exact fl.refl _
theorem Iv.load{prog}{c}{s}(h:Iv prog c s)(d:c.mc){j}{e}(a:c.Z[j]?=some e)(v:ak e.i.op=3)(x:e.known=true->e.is=0):
  Iv prog (oE c j) s∧(oE c j).mc∧(oE c j).halt=c.halt∧(oE c j).r=c.r∧∃f,(oE c j).Z=c.Z.set j f∧f.i=e.i:=by
 have l:Iv prog c s∧c.mc∧c.halt=c.halt∧c.r=c.r∧∃f,c.Z=c.Z.set j f∧f.i=e.i:=by
  refine⟨h,d,rfl,rfl,e,?_,rfl⟩;let⟨dr,b4⟩:=Em.1 a;rw[<-b4,List.set_getElem_self]
 have r:=jg h.ri.ok a;unfold oE;rw[a];simp only;split
 ·exact l
 rename_i b;have b:e.known=true:=by cases q:e.known with|true=>rfl|false=>exact absurd q b
 let⟨_,bb⟩:=r.ZB b (.inl v);rw[ko]at bb;split
 ·rename_i k;have p:=FX h.ri.ok a bb (λi u=>by rw[<-h.mem];exact q7 _ _ _ _ (by rw[<-h.mem,show(Xr c).size=c.mem.size from MU ..]at u;exact u)) k;refine⟨h.put a (m7 e _) (λq=>(qv q λ_ _ _=>p).1) (λq=>?_),es d rfl rfl rfl,rfl,rfl,_,rfl,(m7 e _).i⟩;unfold uM at q⊢;split at q
  ·rename_i o;rw[aa o];exact .inl ⟨q,rfl⟩
  cases q
 split
 ·exact l
 rename_i k;have k:(lL c.Z c.W j).1=2:=b'.1 k;have g:=H1 a k;split
 ·have p:e.known=true->ak e.i.op=3->e.is=0∨e.is=2->oL c e=Cv (c8 prog s (c.Z.take j)).mem e.V (be e.i.op):=λ_ _ _=>by
   unfold oL;rw[h.mem,aa bb];exact(vb ((h.ri.take j).ok) g bb).symm
  refine⟨h.put a (m7 e _) (λq=>(qv q p).1) (λq=>?_),es d rfl rfl rfl,rfl,rfl,_,rfl,(m7 e _).i⟩;unfold uM at q⊢;split at q
  ·rename_i o;rw[aa o];exact .inl ⟨q,rfl⟩
  cases q
 have z:e.is=0:=x b;let⟨cs,c0,c'⟩:=r.wait (.inl z);have m:dm prog (c8 prog s (c.Z.take j)) e->dm prog (c8 prog s (c.Z.take j)) {e with is:=2}:=λq=>
  ⟨q.ins,λn=>absurd (q.Zy n).1 ad,(λn=>by rcases n with n|n<;>cases n),λ_=>⟨cs,c0,c'⟩,q.ZB,.inr (.inr (.inl rfl)),λ_=>⟨v,b⟩,nofun,nofun,nofun,λn=>by have n:ak e.i.op=5:=n;omega,λn=>by have n:ak e.i.op=5:=n;omega,q.gs⟩
 have w:fl e {e with is:=2}:=⟨rfl,rfl,rfl,λq=>by omega⟩;split
 ·exact⟨h.put a w m (λ_=>.inr g),es d rfl rfl rfl,rfl,rfl,_,rfl,rfl⟩
 split
 ·have t:=nh d (k:=1) dT (ab e.V) oZ;have y:Iv prog (jE c 1 (ab e.V) oZ) s:=h.same rfl rfl (nc t rfl) rfl rfl rfl rfl rfl h.ri;exact⟨y.put a w m (λ_=>.inr g),es t.mc rfl rfl rfl,rfl,rfl,_,rfl,rfl⟩
 exact l
theorem Iv.start{prog}{c}{s}(h:Iv prog c s)(f:c.mc){j}(B:Rd c.Z c.r j):
  Iv prog (iS c j) s∧(iS c j).mc∧(iS c j).halt=c.halt∧(iS c j).r=c.r∧(c.Z[j]?=none∧(iS c j).Z=c.Z∨∃e bb,c.Z[j]?=some e∧(iS c j).Z=c.Z.set j bb∧bb.i=e.i∧e.is=0):=by
 unfold iS;split
 ·rename_i C;exact⟨h,f,rfl,rfl,.inl ⟨C,rfl⟩⟩
 rename_i e d;let⟨b4,hc,r4,hd⟩:=B e d;let⟨hj,_⟩:=Em.1 d;have r:∀l:List ai,(c.mem.size:Int)=(c8 prog s l).mem.size:=λl=>by
  rw[ko, <-h.mem,show(Xr c).size=c.mem.size from MU ..]
 have k:∀g,(lK c.Z c.r j g).isSome=true->(lK c.Z c.r j g).getD 0=(c8 prog s (c.Z.take j)).r g.toNat:=λg q=>by
  let⟨v,cs⟩:=FH.1 q;rw[cs];rw[h.r]at cs;exact vv h.ri.ok h.z (Nat.le_of_lt hj) cs
 have u:mI c.Z c.r j=((lK c.Z c.r j e.i.j).getD 0,(lK c.Z c.r j e.i.u).getD 0,(lK c.Z c.r j e.i.j).isSome&&(lK c.Z c.r j e.i.u).isSome):=by unfold mI;rw[d]
 have D:∀(bb:ai) (P:Prop),bb.is≠2->bb.is=2->P:=λbb P a b=>absurd b a;have o:∀n a,(yC e n a).is≠2:=λn a=>by
  unfold yC
  (repeat' split)<;>first|(show e.is≠2;omega)|(show(3:Int)≠2;decide)
 rw[u];simp only;split
 ·rename_i m;exact⟨h.put d (m8 e _ _) (λq=>(vw q (r _) (λ_ _=>k _ (r4 m))).1) (λq=>absurd q (o _ _)),es f rfl rfl rfl,rfl,rfl,.inr ⟨e,_,d,rfl,(m8 e _ _).i,b4⟩⟩
 split
 ·rename_i p m;have t:(b1 c j (yC e c.mem.size ((lK c.Z c.r j e.i.j).getD 0))).Z[j]?=some (yC e c.mem.size ((lK c.Z c.r j e.i.j).getD 0)):=aZ hj;have x:(yC e c.mem.size ((lK c.Z c.r j e.i.j).getD 0)).known=true->(yC e c.mem.size ((lK c.Z c.r j e.i.j).getD 0)).is=0:=λq=>by
   unfold yC at q⊢;split at q
   ·rename_i i;rwa[aa i]
   rename_i i;rw[dZ i];split at q
   ·rename_i A;rwa[aa A]
   exact absurd (.inr (.inr q)) i
  let⟨c0,c',dr,ds,bb,em,fz⟩:=(h.put d (m8 e _ _) (λq=>(vw q (r _) (λ_ y=>k _ ((hc m).resolve_left (by rw[y];decide)))).1) (λq=>absurd q (o _ _))).load (es f rfl rfl rfl) t (by rw[(m8 e _ _).i];exact m) x;refine⟨c0,c',dr,ds,.inr ⟨e,bb,d,?_,fz.trans (m8 e _ _).i,b4⟩⟩;rw[em];show(c.Z.set j _).set j bb=_;rw[lO]
 rename_i p w;let⟨gf,ha⟩:=hd w p;have z:∀a b,(rJ e a b).is≠2:=λa b=>by
  unfold rJ
  (repeat' split)<;>first|(show e.is≠2;omega)|(show(1:Int)≠2;decide)
 exact⟨h.put d (vd e _ _) (λq=>(HW q (λ_=>k _ gf) (λ_=>k _ ha)).1) (λq=>absurd q (z _ _)),es f rfl rfl rfl,rfl,rfl,.inr ⟨e,_,d,rfl,(vd e _ _).i,b4⟩⟩
theorem Iv.Y8{prog:List Nat}{s:St}:∀(p:List Nat) {c:Co},Iv prog c s->c.mc->p.Nodup->(∀i∈p,Rd c.Z c.r i)->Iv prog (p.foldl iS c) s
 |[],c,h,_,_,_=>h
 | j::p,c,h,b4,hn,hR=>by
  let⟨cs,c0,fz,c',dr⟩:=h.start b4 (hR j b_);rw[List.nodup_cons]at hn;refine Iv.Y8 p cs c0 hn.2 λi b=>?_;have a:=hR i (bY _ b);rw[c'];rcases dr with ⟨_,q⟩|⟨e,gf,em,q,bb,ds⟩
  ·rw[q];exact a
  ·rw[q];exact m0 em bb ds (λz=>hn.1 (by rw[z];exact b)) a
theorem ox{agN:Int}{busy:Bool}{kinds:List Int}{can:List Bool}:∀n,(∀i∈(kA agN busy kinds can n).out,i<n∧can.getD i false=true)∧(kA agN busy kinds can n).out.Nodup
 |0=>⟨nofun,List.nodup_nil⟩
 | n +1=>by
  let⟨e,d⟩:=ox (agN:=agN) (busy:=busy) (kinds:=kinds) (can:=can) n;have c:∀i∈(kA agN busy kinds can n).out,i<n+1∧can.getD i false=true:=λi hi=>⟨oH ((e i hi).1),(e i hi).2⟩;unfold kA IW;split
  ·exact⟨c,d⟩
  split
  ·exact⟨c,d⟩
  split
  ·exact⟨c,d⟩
  ·rename_i h _;refine⟨λi hi=>?_,?_⟩
   ·rcases cz.1 hi with hi|hi
    ·exact c i hi
    ·rw[uJ]at hi;subst hi;exact⟨oT,by cases q:can.getD i false with|true=>rfl|false=>exact absurd q h⟩
   ·show((kA agN busy kinds can n).out++[n]).Nodup;rw[List.nodup_append];refine⟨d,by simp,λa g b f=>?_⟩;rw[uJ]at f;subst f;have:=(e a g).1;omega
theorem Iv.Zq{prog}{c}{s}(h:Iv prog c s)(a:c.mc):Iv prog (gY c) s:=by
 unfold gY;split
 ·exact h
 obtain⟨b,d⟩:=ox (Kv c).length;refine h.Y8 _ a d λi e=>wv ?_;let⟨bb,b4⟩:=b i e;unfold Kv at bb b4;rw[aH,fV]at bb;rwa[aR,aX,eZ bb]at b4
theorem Iv.step{prog}{c}{s}{n}(h:Iv prog c s)(p:c.F n)(m:n+20<=890000)(i:c.mc):∃l bb,(ef c).N=c.N++l∧l.length<=c.U.o.toNat∧j2 prog s l bb∧Iv prog (ef c) bb:=by
 have a:=Ql p m;have r:Iv prog (s0 c) s:=h.same rfl rfl rfl rfl rfl rfl rfl rfl h.ri;have e:(s0 c).mc:=es i rfl rfl rfl;have j:(s1 c).mc:=(m_ e a.k0.ok.a).mc;have u:Iv prog (s1 c) s:=r.ZC e a.k0.ok.a;have f:(ar c).mc:=by
  show(kK (s1 c)).mc;unfold kK
  repeat' split
  all_goals exact es j rfl rfl rfl
 let⟨i2,dr⟩:Iv prog _ s∧NW (ar c).Z:=u.ZH;have b:(s3 c).mc:=o7 _ _ a.k2.ok.Z8 f;let⟨l,bb,b4,cs,c0,c'⟩:=i2.Y6 (ar c).U.o.toNat dr f a.k2.ok.Z8;have g:(dj c).mc:=by
  show(gY _).mc;unfold gY;split
  ·exact b
  exact qs _ _ b
 have d:(ea c).mc:=by
  show(lP _).mc;unfold lP;split
  ·exact g
  exact re _ _ g
 have v:Iv prog _ bb:=(Iv.Zq c' b).enters;have k:(ct c).mc:=by
  show(eN _).mc;unfold eN;split
  ·exact d
  exact rl _ _ d
 have w:Iv prog _ bb:=(v.Y3 d).Zm k;refine⟨l,bb,?_,aL cs ?_,c0,w⟩
 ·have x:(s1 c).N=c.N:=(rG _).2.2.1;have y:(ar c).N=(s1 c).N:=(mC _).2;have z:(s3 c).N=(ar c).N++l:=b4;have r4:(dj c).N=(s3 c).N:=by have:=nO a.k3 ad;simp_all only[dj]
  have A:(ea c).N=(dj c).N:=(Ai a.k4).2.2;have B:(ct c).N=(ea c).N:=(uX a.k5 ad).2.2.1;have C:(ef c).N=(ct c).N:=(wX a.k6 ad).2.2.1;rw[C,B,A,r4,z,y,x]
 have o:(ar c).U=c.U:=by
  show(kK _).U=_;have q:(lM (s0 c)).U=c.U:=by
   unfold lM ID oK;(repeat' split)<;>rfl
  unfold kK;(repeat' split)<;>exact q
 rw[o];exact aC _
theorem Iv.new(a)(prog)(m):Iv (fX a prog m).prog (fX a prog m) ⟨0,λ_=>0,jB m,0⟩:=by
 refine⟨rfl,rfl,rfl,?_,rfl,λ_=>rfl,⟨trivial,λi e b=>by cases b⟩,λ_=>⟨0,rfl,λ_=>rfl⟩,λf c=>by cases c⟩;have d:LV (fX a prog m).data=[]:=by
  show((List.replicate _ _).flatten.map _)=[];rw[List.flatten_replicate_nil];rfl
 show rP (rP (jZ [] (jB m)) (LV (fX a prog m).data)) []=jB m;rw[d];rfl
theorem Iv.run{X}{s}(a:∀k,k<=3000->jq X k)(h:Iv X.prog X s)(b:X.mc):∀k,k<3000->∀t,Iv X.prog (uN X k) t->∃l u,(uN X (k+1)).N=(uN X k).N++l∧l.length<=(uN X k).U.o.toNat∧j2 X.prog t l u∧Iv X.prog (uN X (k+1)) u:=by
 intro k d t c;have g:=a k ad;rw[show uN X (k+1)=ef (uN X k)from aa g.rt];exact c.step (EL g.ok ad g.rt) ad (q8 a b k ad)
end Go.Proofs.YtdhclfgoomldfaaGreatDoor
