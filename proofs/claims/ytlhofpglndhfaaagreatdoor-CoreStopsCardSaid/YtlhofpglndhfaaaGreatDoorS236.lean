/- Joined texts. -/
import Derived.Test.YtlhofpglndhfaaaGreatDoorS201
import Derived.Test.YtlhofpglndhfaaaGreatDoorS228
import Derived.Test.YtlhofpglndhfaaaGreatDoorS235
set_option linter.unusedVariables false
set_option linter.unusedSimpArgs false
namespace Go.Proofs.YtlhofpglndhfaaaGreatDoor
open Go.RowKit
theorem RcCor.mono{q r:Int}{c:Co}(h:RcCor q c)(hq:q≤r):RcCor r c:=⟨h.ro,h.lo,by have:=h.nx;omega,h.da,h.wo,h.sp,h.pg⟩
theorem WW{q:Int}{c:Co}{n:Nat}(hm:c.okM n)(hb:n+20≤890000)(hq:q+2≤9000000)(h:RcCor q c):RcCor (q+2) (EB c):=by
 have hk:=FY hm hb;have h0:RcCor q (s0 c):=⟨h.ro,h.lo,h.nx,h.da,h.wo,h.sp,h.pg⟩;have h3:RcCor q (s3 c):=Bm _ _ (TQ (TP h0));have h4:RcCor q (s4 c):=Rj hk.k3 omT h3;have h5:RcCor (q+2) (s5 c):=by
  show RcCor (q+2) (fQ (s4 c));have hw:=mR hk.k4.cf;unfold fQ;split
  ·exact h4.mono omT
  ·exact (GF _ q _ hk.k4.ok.progo omT h4).mono omT
 have h6:RcCor (q+2) (s6 c):=by
  show RcCor (q+2) (cX (s5 c));unfold cX;split
  ·exact h5
  ·exact Fb _ _ h5
 exact Rk h6
theorem EZ{x:ByteArray}(h:∃ n,x.size=upS n):pF x=x:=by
 obtain⟨n,hn⟩:=h;have hu:x.size=16∨x.size=32∨x.size=64∨x.size=128∨x.size=256:=by rw[hn];unfold upS;(repeat' split)<;>omega
 unfold pF;rw[show min x.size 256=x.size by omega,show upS x.size - x.size=0 by rcases hu with e|e|e|e|e<;>rw[e]<;>rfl,List.replicate_zero,dZ,show x.extract 0 x.size=x by simp]
 try (cases x;simp)
theorem Re{f:Cf}{a n:Nat}{q:Int}{c:Co}(hm:c.okM n)(hB:Bd f a c)(h:RcCor q c)(hs:∃ n,c.mem.size=upS n):fS c=true:=by
 have hc:=mR hm.cf;have b1:=hB.rob;have b2:=hB.fet;have b3:=hB.sto;rw[←hB.conf]at b1 b2 b3;unfold fS;simp only[aH,aS,iO];refine⟨⟨⟨⟨⟨⟨⟨⟨⟨⟨⟨hm.cf,h.pg⟩,?_⟩,h.ro.right omT⟩,b1⟩,λ e he=>(h.ro.ev e he).2⟩,?_⟩,?_⟩,hm.guess⟩,b2⟩,b3⟩,h.sp⟩
 ·rw[EZ hs];simp
 ·unfold uF;simp only[aH,aS];exact⟨⟨hm.data,h.da.1⟩,h.da.2⟩
 ·unfold uF;simp only[aH,aS];exact⟨⟨hm.words,h.wo.1⟩,h.wo.2⟩
structure GdRun(X:Co)(k:Nat):Prop where
 ok:(gA X k).ok (10 * k)
 bd:Bd X.conf (gA X k).retired.length (gA X k)
 rc:RcCor (1+2 * k) (gA X k)
 ms:∃ n,(gA X k).mem.size=upS n
 rt:fS (gA X k)=true
theorem YQ(cf:Cf)(prog:List Nat)(m:ByteArray)(hc:cf.ok)(hp:∀ x∈prog,x≤4294967295)(X:Co)(hX:X=qP cf prog m)(hr:fS X=true):GdRun X 0:=by
 have h0:=Ht cf prog m hc hp;subst hX;refine⟨h0,YW cf prog m,⟨RoLst.nil,(show (0:Int)≤1 from by decide),(show (1:Int)≤1+2*((0:Nat):Int)from by decide),?_,?_,λ p hp=>(List.not_mem_nil hp).elim,?_⟩,⟨_,vK m⟩,hr⟩
 ·unfold fS at hr;simp only[aH,aS]at hr;obtain⟨⟨⟨⟨⟨⟨-,h7⟩, -⟩, -⟩, -⟩, -⟩, -⟩:=hr;unfold uF at h7;simp only[aH,aS]at h7;exact⟨h7.1.2,h7.2⟩
 ·unfold fS at hr;simp only[aH,aS]at hr;obtain⟨⟨⟨⟨⟨-,h8⟩, -⟩, -⟩, -⟩, -⟩:=hr;unfold uF at h8;simp only[aH,aS]at h8;exact⟨h8.1.2,h8.2⟩
 ·show (prog.take (min prog.length 64)).length≤64;rw[aN];omega
theorem GdRun.next{X:Co}{k:Nat}(h:GdRun X k)(hk:k≤3000)(h0:0≤X.conf.rob∧0≤X.conf.queue):GdRun X (k+1):=by
 have hm:=qH h.ok omT h.rt;have hs:gI (gA X k)=EB (gA X k):=if_pos h.rt;have hB:=(aaI h0 h.bd).1;have hR:=WW hm omT omT h.rc;have hM:∃ n,(gA X (k+1)).mem.size=upS n:=by
  obtain⟨n,hn⟩:=h.ms;exact⟨n,(Xf h.rt).2.2.trans hn⟩
 have hk7:=(FY hm omT).k7;have hR2:RcCor (1+2 * ((k+1:Nat):Int)) (gA X (k+1)):=by
  show RcCor _ (gI (gA X k));rw[hs,show 1+2 * ((k+1:Nat):Int)=1+2 * (k:Int)+2 by omega];exact hR
 have hk8:(gA X (k+1)).okM (10 * k+10):=by show (gI (gA X k)).okM _;rw[hs];exact hk7
 exact⟨by rw[show 10 * (k+1)=10 * k+10 by omega];exact hk8.ok,hB,hR2,hM,Re hk8 hB hR2 hM⟩
theorem UV{X:Co}(h:GdRun X 0)(h0:0≤X.conf.rob∧0≤X.conf.queue):∀ k,k≤3000→GdRun X k
 |0,_=>h
 |k+1,hk=>(UV h h0 k omT).next omT h0
theorem Rf(cf:Cf)(prog:List Nat)(m:ByteArray)(h0:(qP cf prog m).ok 0):fS (qP cf prog m)=true:=by
 have hc:∀ n lo hi:Int,lo≤hi→lo≤bG n lo hi∧bG n lo hi≤hi:=λ n lo hi h=>by unfold bG;(repeat' split)<;>omega
 have hcf:tD (bO cf)=true:=by
  unfold tD inI bO;have h1:=hc cf.mode 0 2 (by decide);have h2:=hc cf.width 1 2 (by decide);have h3:=hc cf.rob 2 8 (by decide);have h4:=hc cf.queue 1 4 (by decide);have h5:=hc cf.stores 1 4 (by decide);have h6:=hc cf.slots 2 6 (by decide);have h7:=hc cf.sets 1 4 (by decide);have h8:=hc cf.ways 1 2 (by decide);have h9:(1≤(if bG cf.sets 1 4=3 then 2 else bG cf.sets 1 4))∧(if bG cf.sets 1 4=3 then 2 else bG cf.sets 1 4)≤4∧(if bG cf.sets 1 4=3 then 2 else bG cf.sets 1 4)≠3:=by split<;>omega
  simp only[aH,aS,iO,ge_iff_le,ne_eq];refine⟨⟨⟨⟨⟨⟨⟨⟨⟨⟨⟨λ x hx=>?_,h1⟩,h2⟩,h3⟩,h4⟩,h5⟩,h6⟩,⟨h9.1,h9.2.1⟩⟩,h9.2.2⟩,h8⟩,?_⟩,?_⟩
  ·obtain⟨y,_,rfl⟩:=sF.1 hx;exact hc y 1 8 (by decide)
  ·rw[aJ,aN];omega
  ·rw[aN];omega
 have hcl:=mR hcf;have hCa:∀ s w:Int,(s=1∨s=2∨s=4)→(w=1∨w=2)→uF (Ce s w) { (bO cf)with sets:=s,ways:=w}=true:=by
  intro s w hs hw;rcases hs with rfl|rfl|rfl<;>rcases hw with rfl|rfl<;>rfl
 have hsets:(bO cf).sets=1∨(bO cf).sets=2∨(bO cf).sets=4:=by
  have:=hc cf.sets 1 4 (by decide);show (if bG cf.sets 1 4=3 then 2 else bG cf.sets 1 4)=1∨(if bG cf.sets 1 4=3 then 2 else bG cf.sets 1 4)=2∨(if bG cf.sets 1 4=3 then 2 else bG cf.sets 1 4)=4;split<;>omega
 have hways:(bO cf).ways=1∨(bO cf).ways=2:=by
  have:=hc cf.ways 1 2 (by decide);show bG cf.ways 1 2=1∨bG cf.ways 1 2=2;omega
 have hf:=hCa _ _ hsets hways;unfold fS;have hm:(qP cf prog m).mem=pF m:=rfl;rw[show pF (qP cf prog m).mem=(qP cf prog m).mem from EZ ⟨_,vK m⟩];simp only[aH,aS,iO];refine⟨⟨⟨⟨⟨⟨⟨⟨⟨⟨⟨hcf,?_⟩,by simp⟩,rfl⟩,?_⟩,λ e he=>(List.not_mem_nil he).elim⟩,hf⟩,hf⟩,rfl⟩,?_⟩,?_⟩,λ e he=>(List.not_mem_nil he).elim⟩
 ·show (prog.take (min prog.length 64)).length≤64;rw[aN];omega
 ·show ((0:Nat):Int)≤(bO cf).rob;omega
 ·show ((0:Nat):Int)≤(bO cf).queue;omega
 ·show ((0:Nat):Int)≤(bO cf).stores;omega
def gb(m:ByteArray)(i:Nat):Option UInt8:=m.data[i]?
def Bk(p:Pt)(i:Nat):Option UInt8:=if p.addr≤i then gb p.data (i - p.addr)else none
def qN(l:List Pt)(i:Nat):Option UInt8:=l.foldl (λ o p=>(Bk p i).or o) none
theorem Dd{m:ByteArray}{i:Nat}(h:m.size≤i):gb m i=none:=fV h
theorem UR{a b:ByteArray}(hs:a.size=b.size)(h:∀ i,i<a.size→gb a i=gb b i):a=b:=by
 refine ByteArray.ext (Array.ext_getElem? λ i=>?_);by_cases hi:i<a.size
 ·exact h i hi
 ·exact (Dd (m:=a) omT).trans (Dd (m:=b) omT).symm
theorem MX(a b:ByteArray)(i:Nat):gb (a++b) i=if i<a.size then gb a i else gb b (i - a.size):=by
 unfold gb;rw[ByteArray.data_append,Array.getElem?_append];rfl
theorem GC(m:ByteArray)(a b i:Nat):gb (m.extract a b) i=if i<min b m.size - a then gb m (a+i)else none:=by
 unfold gb;rw[ByteArray.data_extract,jS];rfl
theorem YN(m:ByteArray)(p:Pt)(i:Nat)(hi:i<m.size):gb (wR m p) i=(Bk p i).or (gb m i):=by
 unfold wR Bk;by_cases h:p.addr<m.size
 ·rw[if_pos h,MX,MX,GC,GC,GC];simp only[gG,cY];by_cases h1:p.addr≤i
  ·rw[if_pos h1];by_cases h2:i - p.addr<p.data.size
   ·rw[if_pos omT,if_neg omT,if_pos omT];rw[show 0+(i - (min p.addr m.size - 0))=i - p.addr by omega];have:∃ x,gb p.data (i - p.addr)=some x:=⟨p.data.data[i - p.addr],aO h2⟩;obtain⟨x,hx⟩:=this;rw[hx];rfl
   ·rw[if_neg omT,if_pos omT];rw[show p.addr+min p.data.size (m.size - p.addr)+(i - (min p.addr m.size - 0+(min (min p.data.size (m.size - p.addr)) p.data.size - 0)))=i by omega];rw[Dd (m:=p.data) (i:=i - p.addr) omT];rfl
  ·rw[if_neg h1,if_pos omT,if_pos omT,if_pos omT,show 0+i=i by omega];rfl
 ·rw[if_neg h,if_neg omT];rfl
theorem MY(l:List Pt)(i:Nat):∀ o,l.foldl (λ o p=>(Bk p i).or o) o=(qN l i).or o:=by
 induction l with
 |nil=>intro o;rfl
 |cons p l ih=>
  intro o;show l.foldl _ ((Bk p i).or o)=(l.foldl _ ((Bk p i).or none)).or o;rw[ih,ih ((Bk p i).or none),Option.or_assoc];cases Bk p i<;>rfl
theorem xV(p:Pt)(l:List Pt)(i:Nat):qN (p::l) i=(qN l i).or (Bk p i):=by
 show l.foldl _ ((Bk p i).or none)=_;rw[MY];cases Bk p i<;>rfl
theorem Iv(a b:List Pt)(i:Nat):qN (a++b) i=(qN b i).or (qN a i):=by
 unfold qN;rw[List.foldl_append];exact MY b i _
theorem CJ(l:List Pt)(i:Nat):∀ (m:ByteArray),i<m.size→gb (mG m l) i=(qN l i).or (gb m i):=by
 induction l with
 |nil=>intro m _;rfl
 |cons p l ih=>
  intro m hi;show gb (mG (wR m p) l) i=_;rw[ih _ (by rw[CY];exact hi),YN m p i hi,xV,Option.or_assoc]
theorem Kc{l:List Pt}{i:Nat}(h:∀ p∈l,Bk p i=none):qN l i=none:=by
 induction l with
 |nil=>rfl
 |cons p l ih=>rw[xV,ih (λ q hq=>h q (bE _ hq)),h p al_List_mem_cons_self];rfl
theorem TG{l:List Pt}{i:Nat}{v:Option UInt8}(h:∀ p∈l,Bk p i=none∨Bk p i=v)(h1:∃ p∈l,Bk p i=v):qN l i=v:=by
 induction l with
 |nil=>obtain⟨p,hp,_⟩:=h1;exact absurd hp List.not_mem_nil
 | cons p l ih=>
  rw[xV];by_cases hl:∃ q∈l,Bk q i=v
  ·rw[ih (λ q hq=>h q (bE _ hq)) hl];rcases h p al_List_mem_cons_self with e|e
   ·rw[e];cases v<;>rfl
   ·rw[e];cases v<;>rfl
  ·have hn:∀ q∈l,Bk q i=none:=λ q hq=>(h q (bE _ hq)).resolve_right λ e=>hl ⟨q,hq,e⟩;rw[Kc hn];obtain⟨q,hq,e⟩:=h1;rcases al_List_mem_cons.1 hq with e2|e2
   ·subst e2;exact e
   ·exact absurd ⟨q,e2,e⟩ hl
def WayOf(c:Ca)(w:Wy):Prop:=w∈c.sets.flatten
theorem Ap{c:Ca}(h:CaG c){w:Wy}:WayOf c w↔w∈kD c (w.line / 16 % c.sets.length):=by
 unfold WayOf;constructor
 ·intro hw;obtain⟨s,hs,hm⟩:=List.mem_flatten.1 hw;obtain⟨k,hk,rfl⟩:=eC hs;have e:=((h.set k _ (aA hk)).way w hm).set;rw[e,rO (aA hk)];exact hm
 ·intro hw;unfold kD at hw
  cases hk:c.sets[w.line / 16 % c.sets.length]? with
  |none=>rw[hk]at hw;exact absurd hw List.not_mem_nil
  |some s=>rw[hk]at hw;exact List.mem_flatten.2 ⟨s,aB hk,hw⟩
theorem TH{c:Ca}(h:CaG c){w:Wy}(hw:WayOf c w):WyG c.sets.length (w.line / 16 % c.sets.length) w:=by
 obtain⟨s,hs,hm⟩:=List.mem_flatten.1 hw;obtain⟨k,hk,rfl⟩:=eC hs;have g:=(h.set k _ (aA hk)).way w hm;rw[g.set];exact g
theorem QU{l:List Wy}(h:(l.map (·.line)).Nodup){w v:Wy}(hw:w∈l)(hv:v∈l)(e:w.line=v.line):w=v:=by
 induction l with
 |nil=>exact absurd hw List.not_mem_nil
 | cons x l ih=>
  rw[gO,List.nodup_cons]at h;rcases al_List_mem_cons.1 hw with h1|h1
  ·rcases al_List_mem_cons.1 hv with h2|h2
   ·rw[h1,h2]
   ·exact absurd (sF.2 ⟨v,h2,by rw[←e,h1]⟩) h.1
  ·rcases al_List_mem_cons.1 hv with h2|h2
   ·exact absurd (sF.2 ⟨w,h1,by rw[e,h2]⟩) h.1
   ·exact ih h.2 h1 h2
theorem Lz{c:Ca}(h:CaG c){w v:Wy}(hw:WayOf c w)(hv:WayOf c v)(e:w.line=v.line):w=v:=by
 have h1:=(Ap h).1 hw;have h2:=(Ap h).1 hv;rw[←e]at h2;have hn:0<c.sets.length:=by have:=h.sets;omega
 exact QU (h.at (aY _ hn)).one h1 h2 e
theorem DI{c:Ca}(h:CaG c){k:Nat}(hk:k<c.sets.length)(s:List Wy){w:Wy}:WayOf (nL c k s) w↔w∈s∨(WayOf c w∧w.line / 16 % c.sets.length≠k):=by
 show w∈(c.sets.set k s).flatten↔_;rw[List.mem_flatten];constructor
 ·rintro ⟨t,ht,hm⟩;obtain⟨j,hj,e⟩:=eC ht;rw[List.getElem_set]at e;split at e
  ·subst e;exact .inl hm
  ·rename_i hne;rw[bN]at hj;subst e;refine .inr ⟨List.mem_flatten.2 ⟨_,iP hj,hm⟩,?_⟩;rw[((h.set j _ (aA hj)).way w hm).set];exact λ z=>hne z.symm
 ·rintro (hm|⟨hw,hne⟩)
  ·exact⟨s,List.mem_set hk s,hm⟩
  ·have h1:=(Ap h).1 hw;have hj:w.line / 16 % c.sets.length<c.sets.length:=aY _ omT;rw[rO (aA hj)]at h1;refine⟨_,?_,h1⟩;exact List.mem_iff_getElem?.2 ⟨w.line / 16 % c.sets.length,by rw[gU (λ z=>hne z.symm)];exact aA hj⟩
theorem TJ{p:Pt}{i:Nat}(hl:p.addr % 16=0)(hd:p.data.size=0∨p.data.size=16):Bk p i=if p.addr=lineOf i then gb p.data (i % 16)else none:=by
 unfold Bk lineOf;by_cases h:p.addr=i - i % 16
 ·rw[if_pos h,if_pos omT,show i - p.addr=i % 16 by omega]
 ·rw[if_neg h];split
  ·exact Dd omT
  ·rfl
def lD(c:Ca)(i:Nat):Option UInt8:=qN (iD c) i
theorem EO{c:Ca}(h:CaG c){w:Wy}(hw:WayOf c w)(i:Nat):Bk ⟨w.line,w.data⟩ i=if w.line=lineOf i then gb w.data (i % 16)else none:=by
 have g:=TH h hw;have:=g.line;exact TJ (p:=⟨w.line,w.data⟩) (by show w.line % 16=0;unfold lineOf at this;omega) g.data
theorem wU{c:Ca}(h:CaG c){w:Wy}(hw:WayOf c w){i:Nat}(e:w.line=lineOf i):lD c i=gb w.data (i % 16):=by
 refine TG (λ p hp=>?_) ⟨⟨w.line,w.data⟩,sF.2 ⟨w,hw,rfl⟩,by rw[EO h hw,if_pos e]⟩;obtain⟨v,hv,rfl⟩:=sF.1 hp;rw[EO h hv];split
 ·rename_i e2;rw[Lz h hv hw (e2.trans e.symm)];exact .inr rfl
 ·exact .inl rfl
theorem Iw{c:Ca}(h:CaG c){i:Nat}(hn:∀ w,WayOf c w→w.line≠lineOf i):lD c i=none:=by
 refine Kc λ p hp=>?_;obtain⟨v,hv,rfl⟩:=sF.1 hp;rw[EO h hv,if_neg (hn v hv)]
theorem Aq{c d:Ca}(h:CaG c)(hd:CaG d){i:Nat}(e:∀ w,w.line=lineOf i→(WayOf d w→∃ v,WayOf c v∧v.line=w.line∧v.data=w.data)∧(WayOf c w→∃ v,WayOf d v∧v.line=w.line∧v.data=w.data)):lD d i=lD c i:=by
 by_cases hx:∃ w,WayOf c w∧w.line=lineOf i
 ·obtain⟨w,hw,e1⟩:=hx;obtain⟨v,hv,e2,e3⟩:=(e w e1).2 hw;rw[wU h hw e1,wU hd hv (e2.trans e1),e3]
 ·rw[Iw h λ w hw e1=>hx ⟨w,hw,e1⟩,Iw hd λ w hw e1=>?_];obtain⟨v,hv,e2,_⟩:=(e w e1).1 hw;exact hx ⟨v,hv,e2.trans e1⟩
theorem QV{c:Ca}(h:CaG c)(line:Nat){w:Wy}:WayOf (mL c line) w↔WayOf c w:=by
 by_cases hF:(aX c line).2.isSome=true
 ·rw[Ad hF];have ff:=jX hF;rw[DI h ff.2.2.1,(zZ ff.2.2.2).mem_iff];constructor
  ·rintro (h1|h1)
   ·rw[Ap h,((h.at ff.2.2.1).way w h1).set];exact h1
   ·exact h1.1
  ·intro hw;by_cases e:w.line / 16 % c.sets.length=(aX c line).1
   ·exact .inl (by rw[←e];exact (Ap h).1 hw)
   ·exact .inr ⟨hw,e⟩
 ·rw[Ae (by simpa using hF)]
theorem Ke{c:Ca}(h:CaG c){line:Nat}(hF:(aX c line).2.isSome=false){w:Wy}(hw:WayOf c w):w.line≠lineOf line:=by
 have e:=mB (line:=line) (Zq.1 h).1;rw[e]at hF;have hn:iZ (kD c (xO c (lineOf line))) (lineOf line)=none:=by simpa using hF
 intro he;have h1:=(Ap h).1 hw;rw[he]at h1;exact Pz.1 hn w h1 he
theorem Kf{c:Ca}(h:CaG c){line:Nat}(hF:(aX c line).2.isSome=true):∃ w,(kD c (aX c line).1)[(aX c line).2.getD 0]?=some w∧WayOf c w∧w.line=lineOf line:=by
 have ff:=jX hF;refine⟨_,aA ff.2.2.2,?_,?_⟩
 ·have hm:=iP ff.2.2.2;rw[Ap h,((h.at ff.2.2.1).way _ hm).set];exact hm
 ·have e:=mB (line:=line) (Zq.1 h).1;have hp:∀ (l:List Wy) (x j:Nat) (hj:j<l.length),iZ l x=some j→l[j].line=x:=by
   intro l
   induction l with
   |nil=>intro x j hj;exact absurd hj (dT _)
   | cons y l ih=>
    intro x j hj q;unfold iZ at q;by_cases hy:y.line=x
    ·rw[if_pos hy]at q;injection q with q;subst q;exact hy
    ·rw[if_neg hy,wV]at q;obtain⟨i,q1,q2⟩:=q;subst q2;exact ih x i (by simpa using hj) q1
  obtain⟨j,hj⟩:=Fg.1 hF;refine hp _ _ _ _ ?_;have e2:=hj;rw[e]at e2;rw[hj];rw[e];exact e2
theorem way_put{c:Ca}(h:CaG c){line:Nat}(hF:(aX c line).2.isSome=false)(d:ByteArray)(b:Bool):
  ((mF c line d b).2.2=false∧∀ w,WayOf (mF c line d b).1 w↔w=⟨lineOf line,b,cP d⟩∨WayOf c w)∨
  ((mF c line d b).2.2=true∧WayOf c (mF c line d b).2.1∧∀ w,WayOf (mF c line d b).1 w↔w=⟨lineOf line,b,cP d⟩∨(WayOf c w∧w.line≠(mF c line d b).2.1.line)):=by
 have hR:=(Zq.1 h).1;have e:=mB (line:=line) hR;have hk:(aX c line).1<c.sets.length:=by rw[e];exact yJ (jP hR).1 _
 have hset:∀ w,w∈kD c (aX c line).1↔WayOf c w∧w.line / 16 % c.sets.length=(aX c line).1:=λ w=>by
  constructor
  ·intro hw;have q:=((h.at hk).way w hw).set;exact⟨by rw[Ap h,q];exact hw,q⟩
  ·rintro ⟨hw,q⟩;rw[←q];exact (Ap h).1 hw
 rw[xI hR hF];split
 ·rename_i hw;right;have hne:kD c (aX c line).1≠[]:=λ z=>by rw[z]at hw;have:=h.ways;simp at hw;omega
  have hl:(kD c (aX c line).1).getLast?.getD pD=(kD c (aX c line).1).getLast hne:=by rw[List.getLast?_eq_some_getLast hne];rfl
  have hg:=(hset _).1 (List.getLast_mem hne);refine⟨rfl,by show WayOf c ((kD c (aX c line).1).getLast?.getD pD);rw[hl];exact hg.1,λ w=>?_⟩;rw[hl,DI h hk,al_List_mem_cons];have hone:=(h.at hk).one;have hd:w∈(kD c (aX c line).1).dropLast↔w∈kD c (aX c line).1∧w.line≠((kD c (aX c line).1).getLast hne).line:=by
   constructor
   ·intro q;refine⟨kM _ q,λ z=>?_⟩;rw[←List.dropLast_concat_getLast hne,eA,List.nodup_append]at hone;exact hone.2.2 w.line (sF.2 ⟨w,q,rfl⟩) _ (sF.2 ⟨_,tW.2 rfl,rfl⟩) z
   ·rintro ⟨q,z⟩;rw[←List.dropLast_concat_getLast hne]at q;rcases al_List_mem_append.1 q with q|q
    ·exact q
    ·exact absurd (by rw[tW.1 q]) z
  rw[hd,hset];constructor
  ·rintro ((q|q)|q)
   ·exact .inl q
   ·exact .inr ⟨q.1.1,q.2⟩
   ·exact .inr ⟨q.1,λ z=>q.2 (by rw[z];exact hg.2)⟩
  ·rintro (q|q)
   ·exact .inl (.inl q)
   ·by_cases z:w.line / 16 % c.sets.length=(aX c line).1
    ·exact .inl (.inr ⟨⟨q.1,z⟩,q.2⟩)
    ·exact .inr ⟨q.1,z⟩
 ·left;refine⟨rfl,λ w=>?_⟩;rw[DI h hk,al_List_mem_cons,hset];constructor
  ·rintro ((q|q)|q)
   ·exact .inl q
   ·exact .inr q.1
   ·exact .inr q.1
  ·rintro (q|q)
   ·exact .inl (.inl q)
   ·by_cases z:w.line / 16 % c.sets.length=(aX c line).1
    ·exact .inl (.inr ⟨q,z⟩)
    ·exact .inr ⟨q,z⟩
theorem LA{f:Wy→Wy}{l:List Wy}{j:Nat}{x:Wy}(hx:l[j]?=some x):modHd f (eR l j)=f x::(l.take j++l.drop (j+1)):=by
 unfold eR;rw[hx];rfl
theorem MZ{l:List Wy}(h:(l.map (·.line)).Nodup){j:Nat}{x:Wy}(hx:l[j]?=some x){w:Wy}:w∈l.take j++l.drop (j+1)↔w∈l∧w.line≠x.line:=by
 obtain⟨hj,e⟩:=DK.1 hx;have hp:(x::(l.take j++l.drop (j+1))).Perm l:=by
  have:=zZ hj;unfold eR at this;rw[hx]at this;exact this
 have hn:=((hp.map (·.line)).nodup_iff).2 h;rw[gO,List.nodup_cons]at hn;constructor
 ·intro q;exact⟨hp.mem_iff.1 (bE _ q),λ z=>hn.1 (sF.2 ⟨w,q,z⟩)⟩
 ·rintro ⟨q,z⟩;rcases al_List_mem_cons.1 (hp.mem_iff.2 q)with r|r
  ·exact absurd (by rw[r]) z
  ·exact r
theorem Na{c:Ca}(h:CaG c){line:Nat}(hF:(aX c line).2.isSome=true){s:List Wy}{x y:Wy}(hx:(kD c (aX c line).1)[(aX c line).2.getD 0]?=some x)
  (hs:∀ w,w∈s↔w=y∨(w∈kD c (aX c line).1∧w.line≠x.line)) (hl:x.line=lineOf line) (w:Wy):WayOf (nL c (aX c line).1 s) w↔w=y∨(WayOf c w∧w.line≠lineOf line):=by
 have ff:=jX hF;have hxm:=(h.at ff.2.2.1).way x (aB hx);rw[DI h ff.2.2.1,hs,hl];constructor
 ·rintro ((q|q)|q)
  ·exact .inl q
  ·refine .inr ⟨?_,q.2⟩;rw[Ap h,((h.at ff.2.2.1).way w q.1).set];exact q.1
  ·refine .inr ⟨q.1,λ z=>q.2 ?_⟩;rw[z, ←hl];exact hxm.set
 ·rintro (q|q)
  ·exact .inl (.inl q)
  ·by_cases z:w.line / 16 % c.sets.length=(aX c line).1
   ·exact .inl (.inr ⟨by rw[←z];exact (Ap h).1 q.1,q.2⟩)
   ·exact .inr ⟨q.1,z⟩
theorem QW{c:Ca}(h:CaG c){a:Nat}{b:ByteArray}(hw:(mV c a b).2=true):∃ v,WayOf c v∧v.line=lineOf a∧v.data.size=16∧b.size+a % 16≤16∧
  ∀ w,WayOf (mV c a b).1 w↔w={v with data:=yO v.data (a % 16) b,dirty:=true}∨(WayOf c w∧w.line≠lineOf a):=by
 by_cases hF:(aX c a).2.isSome=true
 ·obtain⟨x,hx,hxw,hxl⟩:=Kf h hF;rw[wC b hF rfl hx]at hw⊢;by_cases hq:x.data.size=0∨b.size+a % 16>16
  ·rw[if_pos hq]at hw;cases hw
  ·rw[if_neg hq];have g:=TH h hxw;refine⟨x,hxw,hxl,by have:=g.data;omega,by omega,Na h hF hx (λ w=>?_) hxl⟩;rw[LA hx,al_List_mem_cons,MZ (h.at (jX hF).2.2.1).one hx]
 ·rw[Cz b (by simpa using hF)]at hw;cases hw
theorem QX{c:Ca}(h:CaG c){line:Nat}(w:Wy):WayOf (mW c line) w↔(∃ u,WayOf c u∧u.line=lineOf line∧w={u with dirty:=false})∨(WayOf c w∧w.line≠lineOf line):=by
 by_cases hF:(aX c line).2.isSome=true
 ·obtain⟨x,hx,hxw,hxl⟩:=Kf h hF;rw[Ag hF rfl,Na h hF hx (y:={x with dirty:=false}) (λ v=>?_) hxl]
  ·constructor
   ·rintro (q|q)
    ·exact .inl ⟨x,hxw,hxl,q⟩
    ·exact .inr q
   ·rintro (⟨u,h1,h2,h3⟩|q)
    ·rw[Lz h h1 hxw (h2.trans hxl.symm)]at h3;exact .inl h3
    ·exact .inr q
  ·have hone:=(h.at (jX hF).2.2.1).one;obtain⟨hj,e⟩:=DK.1 hx;rw[←MZ hone hx,List.modify_eq_take_cons_drop hj,e];simp only[al_List_mem_append,al_List_mem_cons];constructor
   ·rintro (q|q|q)
    ·exact .inr (.inl q)
    ·exact .inl q
    ·exact .inr (.inr q)
   ·rintro (q|q|q)
    ·exact .inr (.inl q)
    ·exact .inl q
    ·exact .inr (.inr q)
 ·rw[Ah (by simpa using hF)];have hn:=λ v=>Ke h (line:=line) (by simpa using hF) (w:=v);constructor
  ·intro q;exact .inr ⟨q,hn w q⟩
  ·rintro (⟨u,h1,h2,_⟩|q)
   ·exact absurd h2 (hn u h1)
   ·exact q.1
def belByte(q:List Req)(m:ByteArray)(i:Nat):Option UInt8:=(qN (bX q) i).or (gb m i)
def oJ(c:Ca)(q:List Req)(m:ByteArray)(i:Nat):Option UInt8:=(lD c i).or (belByte q m i)
theorem TK(q:List Req)(m:ByteArray){i:Nat}(hi:i<m.size):gb (fW q m) i=belByte q m i:=CJ _ _ _ hi
theorem US(s:List Pt)(c:Ca)(q:List Req)(m:ByteArray){i:Nat}(hi:i<m.size):gb (Ko s c q m) i=(qN s i).or (oJ c q m i):=by
 unfold Ko Am fW;rw[CJ _ _ _ (by rw[fD,fD];exact hi),CJ _ _ _ (by rw[fD];exact hi),CJ _ _ _ hi];rfl
theorem Iy{s s':List Pt}{c c':Ca}{q q':List Req}{m m':ByteArray}(hm:m'.size=m.size)(h:∀ i,i<m.size→(qN s' i).or (oJ c' q' m' i)=(qN s i).or (oJ c q m i)):Ko s' c' q' m'=Ko s c q m:=by
 refine UR (by rw[BM,BM,hm]) λ i hi=>?_;rw[BM]at hi;rw[US _ _ _ _ hi,US _ _ _ _ omT];exact h i omT
theorem EP(q:List Req)(k:Int)(line:Nat)(left:Int)(d:ByteArray):bX (oY q k line left d)=bX q++if k=4 then [⟨line,d⟩]else []:=by
 unfold bX oY;rw[iT,eA];congr 1;by_cases h:k=4
 ·rw[if_pos h];subst h;rfl
 ·rw[if_neg h,List.filter_cons,if_neg (by simpa using h)];rfl
theorem EQ(q:List Req)(line:Nat)(left:Int)(d:ByteArray)(m:ByteArray)(i:Nat):belByte (oY q 4 line left d) m i=(Bk ⟨line,d⟩ i).or (belByte q m i):=by
 unfold belByte;rw[EP,if_pos rfl,Iv,Option.or_assoc];congr 1;rw[xV];rfl
theorem Oc(q:List Req){k:Int}(hk:k≠4)(line:Nat)(left:Int)(d:ByteArray)(m:ByteArray)(i:Nat):belByte (oY q k line left d) m i=belByte q m i:=by
 unfold belByte;rw[EP,if_neg hk,dZ]
structure McCoh(d:Ca)(q:List Req)(m:ByteArray):Prop where
 g:CaG d
 al:m.size % 16=0
 cl:∀ w,WayOf d w→w.dirty=false→0<w.data.size→∀ i,i<m.size→w.line=lineOf i→gb w.data (i % 16)=belByte q m i
theorem DJ{c:Ca}(h:CaG c){w:Wy}(hw:WayOf c w)(hs:0<w.data.size){i:Nat}:∃ x,gb w.data (i % 16)=some x:=by
 have:=(TH h hw).data;exact⟨_,aO (show i % 16<w.data.data.size by show i % 16<w.data.size;omega)⟩
theorem WP{m:ByteArray}(al:m.size % 16=0){i:Nat}(hi:i<m.size):lineOf i+16≤m.size:=by unfold lineOf;omega
theorem YO{m:ByteArray}(al:m.size % 16=0){line i:Nat}(hi:i<m.size)(e:lineOf line=lineOf i):(cP (AE m line)).size=16∧gb (cP (AE m line)) (i % 16)=gb m i:=by
 have h1:=WP al hi;unfold AE;rw[e,if_pos omT,show min (m.size - lineOf i) 16=16 by omega];have hs:(m.extract (lineOf i) (lineOf i+16)).size=16:=by rw[cY];omega
 rw[show cP (m.extract (lineOf i) (lineOf i+16))=m.extract (lineOf i) (lineOf i+16)from if_pos hs];refine⟨hs,?_⟩;rw[GC,if_pos omT];congr 1;unfold lineOf;omega
theorem TL{d:Ca}{q:List Req}{m:ByteArray}(h:McCoh d q m){line:Nat}(hl:line≤4294967295)(left:Int):
  McCoh (gD d q m line left).1 (gD d q m line left).2.1 m∧∀ i,i<m.size→oJ (gD d q m line left).1 (gD d q m line left).2.1 m i=oJ d q m i:=by
 have hR:=(Zq.1 h.g).1;unfold gD;rw[if_neg (by rw[hR];decide)];have hll:lineOf (lineOf line)=lineOf line:=by unfold lineOf;omega
 by_cases hF:(aX d (lineOf line)).2.isSome=true
 ·rw[if_pos hF];have ht:=λ w=>QV h.g (lineOf line) (w:=w);refine⟨⟨h.g.touch _,h.al,λ w hw=>h.cl w ((ht w).1 hw)⟩,λ i _=>?_⟩;show oJ (mL d (lineOf line)) q m i=_;unfold oJ;rw[Aq h.g (h.g.touch _) λ w _=>⟨λ z=>⟨w,(ht w).1 z,rfl,rfl⟩,λ z=>⟨w,(ht w).2 z,rfl,rfl⟩⟩]
 ·rw [if_neg hF];have hF':(aX d (lineOf line)).2.isSome=false:=by simpa using hF
  have hno:∀ {w},WayOf d w→w.line≠lineOf line:=λ {w} hw=>hll ▸ Ke h.g hF' hw;have hgp:=h.g.put (dR hl) (AE (fW q m) (lineOf line)) false;have hsz:(fW q m).size=m.size:=fD _ _;have hnew:∀ i,i<m.size→lineOf line=lineOf i→(cP (AE (fW q m) (lineOf line))).size=16∧gb (cP (AE (fW q m) (lineOf line))) (i % 16)=belByte q m i:=λ i hi e=>by
   obtain⟨h1,h2⟩:=YO (m:=fW q m) (by rw[hsz];exact h.al) (line:=lineOf line) (i:=i) (by rw[hsz];exact hi) (hll.trans e);exact⟨h1,h2.trans (TK q m hi)⟩
  have hat:∀ i,i<m.size→lineOf line=lineOf i→lD d i=none:=λ i _ e=>Iw h.g λ w hw z=>hno hw (z.trans e.symm);have hsm:∀ i,i<m.size→lineOf line=lineOf i→∃ x,belByte q m i=some x:=λ i hi e=>by
   obtain⟨h1,h2⟩:=hnew i hi e;rw[←h2];exact⟨_,aO (by show i % 16<(cP (AE (fW q m) (lineOf line))).size;omega)⟩
  rcases way_put h.g hF' (AE (fW q m) (lineOf line)) false with ⟨hw2,hw⟩|⟨hw2,hgo,hw⟩
  ·rcases hP:mF d (lineOf line) (AE (fW q m) (lineOf line)) false with ⟨d',gone,went⟩;rw[hP]at hw2 hw hgp;simp only at hw2 hw hgp;rw[hll]at hw;show McCoh (if went=true∧gone.dirty=true∧gone.data.size≠0 then (d',oY q 4 gone.line left gone.data,true)else (d',q,false):Ca×List Req×Bool).1 (if went=true∧gone.dirty=true∧gone.data.size≠0 then (d',oY q 4 gone.line left gone.data,true)else (d',q,false):Ca×List Req×Bool).2.1 m∧∀ i,i<m.size→oJ (if went=true∧gone.dirty=true∧gone.data.size≠0 then (d',oY q 4 gone.line left gone.data,true)else (d',q,false):Ca×List Req×Bool).1 (if went=true∧gone.dirty=true∧gone.data.size≠0 then (d',oY q 4 gone.line left gone.data,true)else (d',q,false):Ca×List Req×Bool).2.1 m i=oJ d q m i;rw[if_neg (by rw[hw2];simp)];have hn:WayOf d' ⟨lineOf line,false,cP (AE (fW q m) (lineOf line))⟩:=(hw _).2 (.inl rfl);refine⟨⟨hgp,h.al,λ w hw1 hd hs i hi e=>?_⟩,λ i hi=>?_⟩
   ·rcases (hw w).1 hw1 with z|z
    ·subst z;exact (hnew i hi e).2
    ·exact h.cl w z hd hs i hi e
   ·show (lD d' i).or _=(lD d i).or _;by_cases e:lineOf line=lineOf i
    ·rw[wU hgp hn e,hat i hi e,(hnew i hi e).2];obtain⟨x,hx⟩:=hsm i hi e;rw[hx];rfl
    ·rw[Aq h.g hgp λ w ew=>⟨λ z=>⟨w,((hw w).1 z).resolve_left λ y=>e (by rw[←ew,y]),rfl,rfl⟩,λ z=>⟨w,(hw w).2 (.inr z),rfl,rfl⟩⟩]
  ·rcases hP:mF d (lineOf line) (AE (fW q m) (lineOf line)) false with ⟨d',gone,went⟩;rw[hP]at hw2 hw hgp hgo;simp only at hw2 hw hgp hgo;rw[hll]at hw;have hn:WayOf d' ⟨lineOf line,false,cP (AE (fW q m) (lineOf line))⟩:=(hw _).2 (.inl rfl);have hgl:gone.line≠lineOf line:=hno hgo;have hgn:∀ i,gone.line=lineOf i→lD d' i=none:=λ i e=>Iw hgp λ w z y=>by
    rcases (hw w).1 z with x|x
    ·rw[x]at y;exact hgl (e.trans y.symm)
    ·exact x.2 (y.trans e.symm)
   have hold:∀ i,lineOf line≠lineOf i→gone.line≠lineOf i→lD d' i=lD d i:=λ i e e2=>
    Aq h.g hgp λ w ew=>⟨λ z=>⟨w,(((hw w).1 z).resolve_left λ y=>e (by rw[←ew,y])).1,rfl,rfl⟩,λ z=>⟨w,(hw w).2 (.inr ⟨z,λ y=>e2 (by rw[←y,ew])⟩),rfl,rfl⟩⟩
   have hcov:=EO h.g hgo;show McCoh (if went=true∧gone.dirty=true∧gone.data.size≠0 then (d',oY q 4 gone.line left gone.data,true)else (d',q,false):Ca×List Req×Bool).1 (if went=true∧gone.dirty=true∧gone.data.size≠0 then (d',oY q 4 gone.line left gone.data,true)else (d',q,false):Ca×List Req×Bool).2.1 m∧∀ i,i<m.size→oJ (if went=true∧gone.dirty=true∧gone.data.size≠0 then (d',oY q 4 gone.line left gone.data,true)else (d',q,false):Ca×List Req×Bool).1 (if went=true∧gone.dirty=true∧gone.data.size≠0 then (d',oY q 4 gone.line left gone.data,true)else (d',q,false):Ca×List Req×Bool).2.1 m i=oJ d q m i;by_cases hc:went=true∧gone.dirty=true∧gone.data.size≠0
   ·rw [if_pos hc];have hb:∀ i,belByte (oY q 4 gone.line left gone.data) m i=if gone.line=lineOf i then gb gone.data (i % 16)else belByte q m i:=λ i=>by
     rw[EQ,hcov];split
     ·obtain⟨x,hx⟩:=DJ h.g hgo omT (i:=i);rw[hx];rfl
     ·rfl
    refine⟨⟨hgp,h.al,λ w hw1 hd hs i hi e=>?_⟩,λ i hi=>?_⟩
    ·show _=belByte (oY q 4 gone.line left gone.data) m i;rw[hb];rcases (hw w).1 hw1 with z|z
     ·subst z;rw[if_neg (λ y=>hgl (y.trans e.symm))];exact (hnew i hi e).2
     ·rw[if_neg (λ y=>z.2 (e.trans y.symm))];exact h.cl w z.1 hd hs i hi e
    ·show (lD d' i).or (belByte (oY q 4 gone.line left gone.data) m i)=(lD d i).or _;rw[hb];by_cases e2:gone.line=lineOf i
     ·rw[if_pos e2,hgn i e2,wU h.g hgo e2];obtain⟨x,hx⟩:=DJ h.g hgo omT (i:=i);rw[hx];rfl
     ·rw[if_neg e2];by_cases e:lineOf line=lineOf i
      ·rw[wU hgp hn e,hat i hi e,(hnew i hi e).2];obtain⟨x,hx⟩:=hsm i hi e;rw[hx];rfl
      ·rw[hold i e e2]
   ·rw [if_neg hc];refine⟨⟨hgp,h.al,λ w hw1 hd hs i hi e=>?_⟩,λ i hi=>?_⟩
    ·rcases (hw w).1 hw1 with z|z
     ·subst z;exact (hnew i hi e).2
     ·exact h.cl w z.1 hd hs i hi e
    ·show (lD d' i).or _=(lD d i).or _;by_cases e2:gone.line=lineOf i
     ·rw[hgn i e2,wU h.g hgo e2];by_cases hs:gone.data.size=0
      ·rw[Dd (m:=gone.data) omT]
      ·have hd:gone.dirty=false:=by
        cases hq:gone.dirty with
        |false=>rfl
        |true=>exact absurd ⟨hw2,hq,hs⟩ hc
       rw[h.cl gone hgo hd omT i hi e2];cases belByte q m i<;>rfl
     ·by_cases e:lineOf line=lineOf i
      ·rw[wU hgp hn e,hat i hi e,(hnew i hi e).2];obtain⟨x,hx⟩:=hsm i hi e;rw[hx];rfl
      ·rw[hold i e e2]
theorem yX(x:Req)(q:List Req):bX (x::q)=(if x.kind=4 then [⟨x.line,x.data⟩]else [])++bX q:=by
 unfold bX;by_cases h:x.kind=4
 ·rw[if_pos h,List.filter_cons,if_pos (by simpa using h)];rfl
 ·rw[if_neg h,List.filter_cons,if_neg (by simpa using h)];rfl
theorem Od(q:List Req)(m:ByteArray)(i:Nat)(hi:i<m.size):
  belByte (dO q).1 (if (dO q).2.2=true∧(dO q).2.1.kind=4 then mG m [⟨(dO q).2.1.line,(dO q).2.1.data⟩]else m) i=belByte q m i:=by
 cases q with
 |nil=>rfl
 | cons x r=>
  by_cases h:wrap64 (x.left - 1)>0
  ·rw[show dO (x::r)=({x with left:=wrap64 (x.left - 1)}::r,JB,false)from if_pos h];rw[if_neg (by simp)];unfold belByte;rw[yX,yX]
  ·rw[show dO (x::r)=(r,{x with left:=wrap64 (x.left - 1)},true)from if_neg h];by_cases hk:x.kind=4
   ·rw[if_pos ⟨rfl,hk⟩];unfold belByte;rw[yX,if_pos hk,CJ _ _ _ hi,Iv,Option.or_assoc]
   ·rw[if_neg (λ z=>hk z.2)];unfold belByte;rw[yX,if_neg hk,iA]
theorem McCoh.belowK{d:Ca}{q q':List Req}{m m':ByteArray}(h:McCoh d q m)(hm:m'.size=m.size)(hb:∀ i,i<m.size→belByte q' m' i=belByte q m i):McCoh d q' m':=
 ⟨h.g,by rw[hm];exact h.al,λ w hw hd hs i hi e=>by rw[hb i omT];exact h.cl w hw hd hs i omT e⟩
abbrev Co.mc(c:Co):Prop:=McCoh c.data c.bus c.mem
abbrev Co.und(c:Co)(i:Nat):Option UInt8:=oJ c.data c.bus c.mem i
structure Keeps(c d:Co):Prop where
 mc:d.mc
 sz:d.mem.size=c.mem.size
 un:∀ i,i<c.mem.size→d.und i=c.und i
theorem Keeps.refl{c:Co}(h:c.mc):Keeps c c:=⟨h,rfl,λ _ _=>rfl⟩
theorem Keeps.trans{a b c:Co}(h:Keeps a b)(k:Keeps b c):Keeps a c:=⟨k.mc,k.sz.trans h.sz,λ i hi=>(k.un i (by have:=h.sz;omega)).trans (h.un i hi)⟩
theorem Keeps.same{a b c:Co}(h:Keeps a b)(h1:c.data=b.data)(h2:c.bus=b.bus)(h3:c.mem=b.mem):Keeps a c:=by
 refine⟨?_,by rw[h3];exact h.sz,λ i hi=>?_⟩
 ·show McCoh c.data c.bus c.mem;rw[h1,h2,h3];exact h.mc
 ·show oJ c.data c.bus c.mem i=_;rw[h1,h2,h3];exact h.un i hi
theorem ER{c:Co}(h:c.mc){line:Nat}(hl:line≤4294967295):Keeps c (eG c line):=by
 have hb:=TL h hl (kK c.conf c.asked);have hm:=(Kk c line).1;refine⟨?_,by rw[hm],λ i hi=>?_⟩
 ·show McCoh (eG c line).data (eG c line).bus (eG c line).mem;rw[hm];exact hb.1
 ·show oJ (eG c line).data (eG c line).bus (eG c line).mem i=_;rw[hm];exact hb.2 i hi
theorem ES{c:Co}(h:c.mc){k:Int}(hk:k≠4)(line:Nat)(d:ByteArray):Keeps c (iR c k line d):=by
 have hb:∀ i,belByte (iR c k line d).bus c.mem i=belByte c.bus c.mem i:=λ i=>Oc _ hk _ _ _ _ _;refine⟨McCoh.belowK h rfl λ i _=>hb i,rfl,λ i _=>?_⟩;show (lD c.data i).or (belByte (iR c k line d).bus c.mem i)=_;rw[hb];rfl
theorem QY{q:List Req}(h:∀ x∈q,x.ok):(dO q).2.2=true→(dO q).2.1.line≤4294967295:=by
 cases q with
 |nil=>intro z;cases z
 |cons x r=>
  by_cases hx:wrap64 (x.left - 1)>0
  ·rw[show dO (x::r)=({x with left:=wrap64 (x.left - 1)}::r,JB,false)from if_pos hx];intro z;cases z
  ·rw[show dO (x::r)=(r,{x with left:=wrap64 (x.left - 1)},true)from if_neg hx];exact λ _=>(h x al_List_mem_cons_self).1
theorem ET{c:Co}(h:c.mc)(hq:∀ x∈c.bus,x.ok):Keeps c (eH c):=by
 have hb:=Od c.bus c.mem;have hl:=QY hq;unfold eH;rcases hT:dO c.bus with ⟨q,x,ok⟩;rw[hT]at hb hl;simp only at hb hl;show Keeps c (if ok=true then wQ {c with bus:=q} x else {c with bus:=q});have hk:∀ {m':ByteArray},m'.size=c.mem.size→(∀ i,i<c.mem.size→belByte q m' i=belByte c.bus c.mem i)→Keeps c {c with bus:=q,mem:=m' }:=λ {m'} hs hb=>by
  refine⟨McCoh.belowK h hs hb,hs,λ i hi=>?_⟩;show (lD c.data i).or (belByte q m' i)=_;rw[hb i hi];rfl
 by_cases ho:ok=true
 ·rw [if_pos ho];unfold wQ;by_cases h4:x.kind=4
  ·rw[if_neg omT,if_neg omT,if_neg omT,if_pos h4];exact hk (fD _ _) λ i hi=>by have:=hb i hi;rw[if_pos ⟨ho,h4⟩]at this;exact this
  ·have k0:Keeps c {c with bus:=q}:=hk rfl λ i hi=>by have:=hb i hi;rw[if_neg (λ z=>h4 z.2)]at this;exact this
   by_cases h1:x.kind=1
   ·rw[if_pos h1];exact k0.same rfl rfl rfl
   ·rw[if_neg h1];by_cases h2:x.kind=2
    ·rw[if_pos h2];exact k0.same rfl rfl rfl
    ·rw[if_neg h2];by_cases h3:x.kind=3
     ·rw[if_pos h3];exact k0.trans (ER k0.mc (hl ho))
     ·rw[if_neg h3,if_neg h4];exact k0
 ·rw[if_neg ho];exact hk rfl λ i hi=>by have:=hb i hi;rw[if_neg (λ z=>ho z.1)]at this;exact this
theorem QZ{d b:ByteArray}{a j:Nat}(hd:d.size=16)(hb:b.size+a≤16)(hj:j<16):gb (yO d a b) j=(if a≤j then gb b (j - a)else none).or (gb d j):=by
 unfold yO;rw[MX,MX,GC,GC];simp only[gG,cY];by_cases h1:a≤j
 ·rw[if_pos h1];by_cases h2:j - a<b.size
  ·rw[if_pos omT,if_neg omT,show j - (min a d.size - 0)=j - a by omega];have:∃ x,gb b (j - a)=some x:=⟨_,aO h2⟩;obtain⟨x,hx⟩:=this;rw[hx];rfl
  ·rw[Dd (m:=b) (i:=j - a) omT,if_neg omT,if_pos omT,show a+b.size+(j - (min a d.size - 0+b.size))=j by omega];rfl
 ·rw[if_neg h1,if_pos omT,if_pos omT,if_pos omT,show 0+j=j by omega];rfl
theorem TM{d:Ca}{q:List Req}{m:ByteArray}(h:McCoh d q m){p:Pt}(hw:(mV d p.addr p.data).2=true):
  McCoh (mV d p.addr p.data).1 q m∧∀ i,i<m.size→oJ (mV d p.addr p.data).1 q m i=(Bk p i).or (oJ d q m i):=by
 obtain⟨v,hv,hvl,hvs,hbs,hW⟩:=QW h.g hw;have hg:=h.g.write p.addr p.data;refine⟨⟨hg,h.al,λ w hw1 hd hs i hi e=>?_⟩,λ i hi=>?_⟩
 ·rcases (hW w).1 hw1 with z|z
  ·subst z;cases hd
  ·exact h.cl w z.1 hd hs i hi e
 ·show (lD _ i).or _=(Bk p i).or ((lD d i).or _);by_cases e:lineOf p.addr=lineOf i
  ·rw[wU hg ((hW _).2 (.inl rfl)) (hvl.trans e),wU h.g hv (hvl.trans e)];rw[QZ hvs hbs omT,Option.or_assoc];congr 1;unfold Bk lineOf at *;by_cases h2:p.addr≤i
   ·rw[if_pos h2,if_pos omT];congr 1;omega
   ·rw[if_neg h2,if_neg omT]
  ·have hc:Bk p i=none:=by
    unfold Bk;split
    ·exact Dd (by unfold lineOf at e;omega)
    ·rfl
   rw[hc,Aq h.g hg λ w ew=>⟨λ z=>⟨w,(((hW w).1 z).resolve_left λ y=>e (by rw[←ew,y];exact hvl.symm)).1,rfl,rfl⟩,λ z=>⟨w,(hW w).2 (.inr ⟨z,λ y=>e (by rw[←y,ew])⟩),rfl,rfl⟩⟩];rfl
theorem WQ{d:Ca}{q:List Req}{m:ByteArray}(h:McCoh d q m){w:Wy}(hw:WayOf d w)(hs:w.data.size≠0)(left:Int):
  McCoh (mW d w.line) (oY q 4 w.line left w.data) m∧∀ i,i<m.size→oJ (mW d w.line) (oY q 4 w.line left w.data) m i=oJ d q m i:=by
 have hg:=h.g.clean w.line;have hwl:=(TH h.g hw).line;have hC:=λ v=>QX h.g (line:=w.line) v;have hb:∀ i,belByte (oY q 4 w.line left w.data) m i=if w.line=lineOf i then gb w.data (i % 16)else belByte q m i:=λ i=>by
  rw[EQ,EO h.g hw];split
  ·obtain⟨x,hx⟩:=DJ h.g hw omT (i:=i);rw[hx];rfl
  ·rfl
 refine⟨⟨hg,h.al,λ v hv hd hvs i hi e=>?_⟩,λ i hi=>?_⟩
 ·rw[hb];rcases (hC v).1 hv with ⟨u,h1,h2,h3⟩|z
  ·have:=Lz h.g h1 hw (h2.trans hwl);subst this;subst h3;rw[if_pos e]
  ·rw[if_neg (λ y=>z.2 (by rw[e, ←y,hwl]))];exact h.cl v z.1 hd hvs i hi e
 ·show (lD _ i).or _=(lD d i).or _;have hl:lD (mW d w.line) i=lD d i:=Aq h.g hg λ v _=>⟨λ z=>by
   rcases (hC v).1 z with ⟨u,h1,h2,h3⟩|y
   ·subst h3;exact⟨u,h1,rfl,rfl⟩
   ·exact⟨v,y.1,rfl,rfl⟩,λ z=>by
   by_cases e:v.line=lineOf w.line
   ·exact⟨{v with dirty:=false},(hC _).2 (.inl ⟨v,z,e,rfl⟩),rfl,rfl⟩
   ·exact⟨v,(hC v).2 (.inr ⟨z,e⟩),rfl,rfl⟩⟩
  rw[hl,hb];split
  ·rename_i e;rw[wU h.g hw e];obtain⟨x,hx⟩:=DJ h.g hw omT (i:=i);rw[hx];rfl
  ·rfl
theorem Kg{c d:Co}(h:Keeps c d)(hs:d.stores=c.stores):tT d=tT c:=Iy h.sz λ i hi=>by rw[hs];exact congrArg _ (h.un i hi)
theorem De{c:Co}(h:c.mc):(kJ c).mc∧tT (kJ c)=tT c∧(kJ c).mem.size=c.mem.size:=by
 have h1:(aQ c).mc∧tT (aQ c)=tT c∧(aQ c).mem=c.mem:=by
  cases hs:c.stores with
  |nil=>
   have hd:aQ c={c with stores:=[],data:=c.data}:=by unfold aQ;rw[hs];rfl
   rw[hd]
   exact⟨h,by unfold tT;rw[hs],rfl⟩
  | cons p l=>
   have hd:aQ c={c with stores:=(lJ (p::l) c.data).1,data:=(lJ (p::l) c.data).2.1}:=by unfold aQ;rw[hs]
   rw[hd];by_cases hw:(mV c.data p.addr p.data).2=true
   ·rw[show lJ (p::l) c.data=(l,(mV c.data p.addr p.data).1,true)from if_pos hw];have k:=TM h hw;refine⟨k.1,?_,rfl⟩;unfold tT;refine Iy rfl λ i hi=>?_;rw[hs,xV,Option.or_assoc,k.2 i hi]
   ·rw[show lJ (p::l) c.data=(p::l,c.data,false)from if_neg hw];exact⟨h,by unfold tT;rw[hs],rfl⟩
 have hA:∀ {d:Co},d.mc→(jK d).mc∧tT (jK d)=tT d∧(jK d).mem.size=d.mem.size:=λ {d} k=>by
  unfold jK;split
  ·exact⟨k,rfl,rfl⟩
  ·split
   ·have z:=λ l=>ES k (k:=3) (by decide) l nE;exact⟨(z _).mc,Kg (z _) rfl,(z _).sz⟩
   ·exact⟨k,rfl,rfl⟩
 have hB:∀ {d:Co},d.mc→(iM d).mc∧tT (iM d)=tT d∧(iM d).mem.size=d.mem.size:=λ {d} k=>by
  unfold iM;split
  ·exact⟨k,rfl,rfl⟩
  ·unfold kE;split
   ·rename_i w e;split
    ·rename_i hs;have hw:WayOf d.data w:=by
      unfold cM at e;split at e
      ·exact List.mem_of_find?_eq_some e
      ·cases e
     have z:=WQ k hw hs (kK d.conf d.asked);refine⟨z.1,?_,rfl⟩;unfold tT;exact Iy rfl λ i hi=>congrArg _ (z.2 i hi)
    ·exact⟨k,rfl,rfl⟩
   ·exact⟨k,rfl,rfl⟩
 rw[iK];split
 ·have a:=hA h1.1;have b:=hB a.1;exact⟨b.1,b.2.1.trans (a.2.1.trans h1.2.1),b.2.2.trans (a.2.2.trans (by rw[h1.2.2]))⟩
 ·have b:=hB h1.1;exact⟨b.1,b.2.1.trans h1.2.1,b.2.2.trans (by rw[h1.2.2])⟩
theorem sE{c d:Co}(h:c.mc)(h1:d.data=c.data)(h2:d.bus=c.bus)(h3:d.mem=c.mem):d.mc:=by
 show McCoh d.data d.bus d.mem;rw[h1,h2,h3];exact h
theorem EU:∀ (n:Nat) (c:Co),(∀ e∈c.rob,e.ok)→c.mc→(dF n c).mc
 |0,_,_,h=>h
 | n + 1,c,ho,h=>by
  unfold dF;split
  ·exact h
  ·split
   ·exact h
   ·rename_i e l he;split
    ·exact h
    ·split
     ·exact sE h rfl rfl rfl
     ·split
      ·exact h
      ·have heo:=ho e (by rw[he];exact al_List_mem_cons_self);refine EU n _ (λ x hx=>ho x (by rw[he];exact bE _ hx)) ?_;have hp:(eV c (bW e)).mc:=sE h rfl rfl rfl;unfold qM qZ;split
       ·exact sE (ER hp (fF heo).addr).mc rfl rfl rfl
       ·exact sE h rfl rfl rfl
theorem WR{c:Co}(h:c.mc)(i:Nat):(jM c i).mc:=by
 have hs:∀ e,(setE c i e).mc:=λ e=>sE h rfl rfl rfl;have ha:=λ l=>(ES h (k:=1) (by decide) l nE).mc;unfold jM
 repeat' split
 all_goals first|exact h|exact hs _|exact sE (ha _) rfl rfl rfl
theorem TN{c:Co}(h:c.mc)(i:Nat):(eN c i).mc:=by
 have hs:∀ e,(setE c i e).mc:=λ e=>sE h rfl rfl rfl;unfold eN
 repeat' split
 all_goals first|exact h|exact hs _|exact WR (hs _) _
theorem Kh:∀ (p:List Nat) (c:Co),c.mc→(p.foldl eN c).mc
 |[],_,h=>h
 |i::p,c,h=>Kh p _ (TN h i)
theorem GD:∀ (n:Nat) (c:Co),c.mc→(iL n c).mc
 |0,_,h=>h
 |n+1,c,h=>by
  unfold iL
  repeat' split
  ·exact h
  ·exact h
  ·exact GD n _ (sE h rfl rfl rfl)
theorem EV:∀ (n:Nat) (c:Co),c.mc→(dS n c).mc
 |0,_,h=>h
 | n +1,c,h=>by
  unfold dS;split
  ·exact h
  ·split
   ·exact sE h rfl rfl rfl
   ·split
    ·split
     ·exact (ES h (k:=2) (by decide) _ _).mc
     ·exact h
    ·refine EV n _ ?_;have hb:∀ w,(cF {c with words:=mL c.words (lineOf c.fetch)} w).1.mc:=λ w=>by
      unfold cF
      repeat' split
      all_goals exact sE h rfl rfl rfl
     exact sE (hb (fetchW c.prog c.fetch)) rfl rfl rfl
theorem WS{c:Co}{n:Nat}(hm:c.okM n)(hb:n+20≤890000)(h:c.mc):(EB c).mc:=by
 have hk:=FY hm hb;have h0:(s0 c).mc:=sE h rfl rfl rfl;have h1:(s1 c).mc:=(ET h0 hk.k0.ok.buso).mc;have h2:(s2 c).mc:=by
  show (fH (s1 c)).mc;unfold fH
  repeat' split
  all_goals exact sE h1 rfl rfl rfl
 have h3:(s3 c).mc:=EU _ _ hk.k2.ok.robo h2;have h4:(s4 c).mc:=by
  show (eE (s3 c)).mc;unfold eE;split
  ·exact h3
  ·exact Kh _ _ h3
 have h5:(s5 c).mc:=by
  show (fQ (s4 c)).mc;unfold fQ;split
  ·exact h4
  ·exact GD _ _ h4
 have h6:(s6 c).mc:=by
  show (cX (s5 c)).mc;unfold cX;split
  ·exact h5
  ·exact EV _ _ h5
 exact (De h6).1
theorem YP(cf:Cf)(prog:List Nat)(m:ByteArray)(h0:(qP cf prog m).okM 0):(qP cf prog m).mc:=by
 have hn:∀ w, ¬ WayOf (qP cf prog m).data w:=λ w hw=>by
  obtain⟨s,hs,hm⟩:=List.mem_flatten.1 hw;rw[(List.mem_replicate.1 hs).2]at hm;exact absurd hm List.not_mem_nil
 refine⟨h0.gd,?_,λ w hw=>absurd hw (hn w)⟩;show (pF m).size % 16=0;obtain⟨n,hn⟩:∃ n,(pF m).size=upS n:=⟨_,vK m⟩;rw[hn];unfold upS
 (repeat' split)<;>rfl
theorem UT{X:Co}(hG:∀ k,k≤3000→GdRun X k)(h:X.mc):∀ k,k≤3000→(gA X k).mc
 |0,_=>h
 |k+1,hk=>by
  have g:=hG k omT;show (gI (gA X k)).mc;rw[show gI (gA X k)=EB (gA X k)from if_pos g.rt];exact WS (qH g.ok omT g.rt) omT (UT hG h k omT)
structure HdCo(c:Co):Prop where
 st:c.halt≠0→c.rob=[]∧c.fetched=[]
structure SameH(c d:Co):Prop where
 ret:d.retired=c.retired
 r:d.r=c.r
 halt:d.halt=c.halt
 rob:c.rob=[]→d.rob=[]
 fet:d.fetched=c.fetched
 fetch:d.fetch=c.fetch
theorem SameH.trans{a b c:Co}(h:SameH a b)(k:SameH b c):SameH a c:=⟨k.ret.trans h.ret,k.r.trans h.r,k.halt.trans h.halt,λ z=>k.rob (h.rob z),k.fet.trans h.fet,k.fetch.trans h.fetch⟩
theorem EW(c:Co)(line:Nat):SameH c (eG c line):=by
 rw[←nQ];exact⟨rfl,rfl,rfl,λ h=>h,rfl,rfl⟩
theorem Bl(c:Co):SameH c (eH c):=by
 have hB:SameH c (iV c):=⟨rfl,rfl,rfl,λ h=>h,rfl,rfl⟩;rw[iB];split
 ·unfold wQ
  repeat' split
  ·exact⟨rfl,rfl,rfl,λ h=>by show List.map _ c.rob=[];rw[h];rfl,rfl,rfl⟩
  ·exact⟨rfl,rfl,rfl,λ h=>h,rfl,rfl⟩
  ·exact hB.trans (EW _ _)
  ·exact⟨rfl,rfl,rfl,λ h=>h,rfl,rfl⟩
  ·exact hB
 ·exact hB
theorem Df(c:Co):SameH c (kJ c):=by
 have h1:SameH c (aQ c):=⟨rfl,rfl,rfl,λ h=>h,rfl,rfl⟩;have hA:∀ d:Co,SameH d (jK d):=λ d=>by
  unfold jK
  repeat' split
  all_goals exact⟨rfl,rfl,rfl,λ h=>h,rfl,rfl⟩
 have hB:∀ d:Co,SameH d (iM d):=λ d=>by
  unfold iM kE
  repeat' split
  all_goals exact⟨rfl,rfl,rfl,λ h=>h,rfl,rfl⟩
 rw[iK];split
 ·exact (h1.trans (hA _)).trans (hB _)
 ·exact h1.trans (hB _)
theorem Ki{c:Co}(h:c.halt≠0):EB c=kJ (eH (s0 c)):=by
 have hh:(eH (s0 c)).halt≠0:=by rw[(Bl (s0 c)).halt];exact h
 have h1:fH (eH (s0 c))=eH (s0 c):=if_pos hh;have h2:dG (eH (s0 c))=eH (s0 c):=iQ (.inl hh);have h3:eE (eH (s0 c))=eH (s0 c):=if_pos hh;have h4:fQ (eH (s0 c))=eH (s0 c):=if_pos hh;have h5:cX (eH (s0 c))=eH (s0 c):=if_pos hh;show kJ (cX (fQ (eE (dG (fH (eH (s0 c)))))))=_;rw[h1,h2,h3,h4,h5]
theorem Rb{c:Co}(h:c.halt≠0):SameH c (EB c):=by
 rw[Ki h];have h0:SameH c (s0 c):=⟨rfl,rfl,rfl,λ h=>h,rfl,rfl⟩;exact (h0.trans (Bl _)).trans (Df _)
theorem LB(c:Co):(eH c).stores=c.stores:=(pN c).2.1
theorem TO{c:Co}{n:Nat}(hm:c.okM n)(hc:c.mc)(h:c.halt≠0):tT (EB c)=tT c:=by
 rw[Ki h];have h0:(s0 c).mc:=sE hc rfl rfl rfl;have k:=ET h0 (Ur hm).ok.buso;exact (De k.mc).2.1.trans ((Kg k (LB _)).trans rfl)
theorem Dg:∀ (n:Nat) (c:Co),HdCo c→HdCo (dF n c)
 |0,_,h=>h
 | n + 1,c,h=>by
  unfold dF;split
  ·exact h
  ·rename_i h0;split
   ·exact h
   ·split
    ·exact h
    ·split
     ·exact⟨λ _=>⟨rfl,rfl⟩⟩
     ·split
      ·exact h
      ·refine Dg n _ ⟨λ z=>absurd ?_ h0⟩;rename_i e l _ _ _ _;have q:(qM c e (bW e) l).halt=c.halt:=by
        unfold qM qZ;show (if kindOf e.i.op=3 then eG (eV c (bW e)) (bW e).addr else eV c (bW e)).halt=c.halt;split
        ·exact (EW _ _).halt
        ·rfl
       rw[←q];exact z
theorem WU{c d:Co}(h:HdCo c)(hh:d.halt=c.halt)(hr:c.halt≠0→d=c):HdCo d:=⟨λ z=>by rw[hh]at z;rw[hr z];exact h.st z⟩
theorem Rd(c:Co)(i:Nat):(jM c i).halt=c.halt:=by
 unfold jM;repeat' split
 all_goals rfl
theorem Oe(c:Co)(i:Nat):(eN c i).halt=c.halt:=by
 unfold eN;repeat' split
 all_goals first|rfl|exact Rd _ _
theorem EX:∀ (p:List Nat) (c:Co),(p.foldl eN c).halt=c.halt
 |[],_=>rfl
 |i::p,c=>(EX p _).trans (Oe c i)
theorem EY:∀ (n:Nat) (c:Co),(iL n c).halt=c.halt
 |0,_=>rfl
 |n+1,c=>by
  unfold iL;repeat' split
  ·rfl
  ·rfl
  ·exact EY n _
theorem Dh:∀ (n:Nat) (c:Co),(dS n c).halt=c.halt
 |0,_=>rfl
 |n+1,c=>by
  unfold dS;repeat' split
  all_goals first|rfl|skip
  refine (Dh n _).trans ?_;show (cF _ _).1.halt=c.halt;unfold cF;repeat' split
  all_goals rfl
theorem WV{c:Co}(h:HdCo c):HdCo (gI c):=by
 unfold gI;split
 ·have h1:HdCo (eH (s0 c)):=by
   have t:=Bl (s0 c);refine⟨λ z=>?_⟩;rw[t.halt]at z;have:=h.st z;exact⟨t.rob this.1,t.fet.trans this.2⟩
  have h2:HdCo (fH (eH (s0 c))):=by
   unfold fH;split
   ·exact h1
   ·rename_i z;split
    ·exact⟨λ y=>absurd y z⟩
    ·exact⟨λ y=>absurd y z⟩
  have h3:=Dg (fH (eH (s0 c))).conf.width.toNat _ h2;have h4:∀ {d:Co},HdCo d→HdCo (eE d):=λ {d} k=>WU k (by unfold eE;split;rfl;exact EX _ _) λ z=>if_pos z;have h5:∀ {d:Co},HdCo d→HdCo (fQ d):=λ {d} k=>WU k (by unfold fQ;split;rfl;exact EY _ _) λ z=>if_pos z;have h6:∀ {d:Co},HdCo d→HdCo (cX d):=λ {d} k=>WU k (by unfold cX;split;rfl;exact Dh _ _) λ z=>if_pos z;have h7:=h6 (h5 (h4 h3));have t:=Df (cX (fQ (eE (dF (fH (eH (s0 c))).conf.width.toNat (fH (eH (s0 c)))))));refine⟨λ z=>?_⟩;have z2:=h7.st (λ y=>z (t.halt.trans y));exact⟨t.rob z2.1,t.fet.trans z2.2⟩
 ·exact h
theorem UU{X:Co}(h:HdCo X):∀ k,HdCo (gA X k)
 |0=>h
 |k+1=>WV (UU h k)
set_option maxRecDepth 100000
set_option maxHeartbeats 4000000
def lastV(l:List Pt)(a:Nat):Nat:=((qN l a).getD 0).toNat
theorem JZ{l:List Pt}{k a:Nat}{x:Pt}(hx:l[k]?=some x):qN (l.take (k+1)) a=(Bk x a).or (qN (l.take k) a):=by
 rw[bV,hx,Iv];show (qN [x] a).or _=_;rw[xV];rfl
theorem WM{x:Pt}{a:Nat}(h:x.addr≤a∧a - x.addr<x.data.size):Bk x a=some (x.data.data.toList.getD (a - x.addr) 0):=by
 unfold Bk gb;rw[if_pos h.1,aO h.2];have:a - x.addr<x.data.data.toList.length:=by rw[cW];exact h.2
 rw[bC,aA this];rfl
theorem TD{x:Pt}{a:Nat}(h: ¬ (x.addr≤a∧a - x.addr<x.data.size)):Bk x a=none:=by
 unfold Bk;split
 ·exact Dd (by omega)
 ·rfl
theorem MT{l:List Pt}{k a:Nat}{x:Pt}(hx:l[k]?=some x)(h:x.addr≤a∧a - x.addr<x.data.size):(x.data.data.toList.getD (a - x.addr) 0).toNat=lastV (l.take (k+1)) a∧(qN (l.take (k+1)) a).isSome=true:=by
 unfold lastV;rw[JZ hx,WM h];exact⟨rfl,rfl⟩
theorem Ka{l:List Pt}{k a:Nat}{x:Pt}(hx:l[k]?=some x)(h: ¬ (x.addr≤a∧a - x.addr<x.data.size)):qN (l.take (k+1)) a=qN (l.take k) a:=by
 rw[JZ hx,TD h];rfl
theorem aaA{a b:Nat}(ha:a≤1000000)(hb:b≤4294967295):IntKind.wrap .i64 ((a:Int) - (b:Int))=(a:Int) - (b:Int):=by rw[w64];unfold wrap64;omega
theorem aaB{a b:Nat}{d:ByteArray}{v:Nat}(h:(d.data.toList.getD (a - b) 0).toNat=v):(((d.data.toList.getD ((a:Int) - (b:Int)).toNat 0).toNat:Nat):Int)=(v:Int):=by
 rw[show ((a:Int) - (b:Int)).toNat=a - b by omega,h]
theorem WN{a b n:Nat}(h:dE (decide ((a:Int) - (b:Int)≥0)) (decide ((a:Int) - (b:Int)<(n:Int))) false=true):b≤a∧a - b<n:=by
 rw[c2a]at h;simp at h;omega
theorem YL{a b n:Nat}(h:dE (decide ((a:Int) - (b:Int)≥0)) (decide ((a:Int) - (b:Int)<(n:Int))) false=false): ¬ (b≤a∧a - b<n):=by
 rw[c2a]at h;simp at h;omega
theorem YM(l:List Pt)(a:Nat)(ck:Bool)(hl:l.length≤1000000)(ho:∀ x∈l,x.ok)(ha:a≤1000000):bT C0 136 [.sl 2 (l.map ptL) ck,vN a] (.tup [.v (.int .u8 (lastV l a:Int)),vB (qN l a).isSome]):=by
 refine dc1 (bT.intro c1Ok Tryz.func136 rfl rfl (by kernel_rfl) rfl ?_);refine bK<|iG rfl<|oR 2 rfl<|rE 2<|bK<|iG rfl<|oR 1 rfl<|rE 3<|bK<|iG rfl<|oR 1 rfl<|rE 4<|bK<|bK<|iG rfl<|oR 1 rfl<|rOk rfl rfl (cG ptL l)<|oR 1 rfl<|rE 7<|bL<|oE (κ:=Nat) (λ k=>⟨slotsF [(1,vN a),(4,.v (.int .u8 0)),(5,vB false),(11,.sl 2 (l.map ptL) ck),(12,vN l.length),(6,.v (.int .u8 ((lastV (l.take k) a:Nat):Int))),(7,vB ((qN (l.take k) a).isSome)),(13,vN k)],heapF [],7⟩) (λ k=>k≤l.length) (λ k=>l.length - k) 0 (λ s=>s) (Weak.of_lists (λ s=>s) wT trivial rfl) (aD _) ?_;intro k hk;have hkn:k≤l.length:=hk;have hkB:k≤1000000:=by omega
 refine bK<|iG rfl<|rOk rfl rfl (okB (ltN _ _))<|rE 8<|bK<|aV rfl (λ h1=>?_) (λ h1=>?_)
 ·have h1p:=of_decide_eq_true h1;refine bB<|bK<|bL<|bK<|iG rfl ?_;obtain⟨x,hx⟩:∃ y_,l[k]?=some y_:=⟨_,aA omT⟩;have hxo:=ho x (aB hx);refine CP (ptL x) (x:=.dp 2 0 (ptL x)) rfl rfl rfl (⟨aF _,jH hx⟩) rfl<|oR 1 rfl<|rAl 10 rfl rfl<|rSt rfl<|rE 12<|bK<|iG rfl<|oR 3 rfl<|rOk rfl rfl (okI (bU hxo.addr rfl))<|rOk rfl rfl (okI (aaA ha hxo.addr))<|oR 1 rfl<|rE 18<|bK<|iG rfl<|oR 1 rfl<|rOk rfl rfl rfl<|oR 1 rfl<|gN rfl<|gN rfl<|gS rfl id<|gBS rfl id rfl<|gBS rfl hsT rfl<|cS rfl rfl rfl (λ h=>h)<|rE 27<|aV rfl (λ h2=>?_) (λ h2=>?_)
  ·refine bK<|iG rfl<|oR 3 rfl<|cS (x:=.v (.int .u8 ((lastV (l.take (k+1)) a:Nat):Int))) rfl rfl (Fh (aaB (MT hx (WN h2)).1)) (by have:=(WN h2);omega)<|oR 1 rfl<|rE 32<|iG rfl<|oR 1 rfl<|rE 33<|iG rfl ?_;have b1:k+1≤1000001:=aG hkB (aC 1);refine rOk (x:=vN (k+1)) rfl rfl (okI (bU b1 rfl))<|oR 1 rfl<|rE 35 ?_;refine⟨k+1,λ s=>s,Weak.of_lists (λ s=>s) ⟨⟨rfl,rfl⟩,⟨rfl,rfl⟩,⟨rfl,rfl⟩,⟨rfl,rfl⟩,⟨rfl,rfl⟩,⟨rfl,rfl⟩,⟨(congrArg vB (MT hx (WN h2)).2.symm),rfl⟩,⟨rfl,rfl⟩,trivial⟩ trivial rfl,by omega,by show l.length - (k+1)<l.length - k;omega⟩
  ·refine bB<|iG rfl ?_;have b2:k+1≤1000001:=aG hkB (aC 1);refine rOk (x:=vN (k+1)) rfl rfl (okI (bU b2 rfl))<|oR 1 rfl<|rE 29 ?_;refine⟨k+1,λ s=>s,Weak.of_lists (λ s=>s) ⟨⟨rfl,rfl⟩,⟨rfl,rfl⟩,⟨rfl,rfl⟩,⟨rfl,rfl⟩,⟨rfl,rfl⟩,⟨(congrArg (λ z:Option UInt8=>AV.v (.int .u8 (((z.getD 0).toNat:Nat):Int))) (Ka hx (YL h2)).symm),rfl⟩,⟨(congrArg (λ z:Option UInt8=>vB z.isSome) (Ka hx (YL h2)).symm),rfl⟩,⟨rfl,rfl⟩,trivial⟩ trivial rfl,by omega,by show l.length - (k+1)<l.length - k;omega⟩
 ·have h1p:=aE h1;refine eP<|bK<|iG rfl<|oR 4 rfl<|rE 12<|cO ?_;exact eQ rfl trivial rfl (by rw[aM (show l.length≤k by omega)];rfl)
def byteN(m:ByteArray)(l:List Pt)(i:Nat):Nat:=((qN l i).getD (m.data.toList.getD i 0)).toNat
def Kb(m:ByteArray)(l:List Pt)(i:Nat):UInt8:=(qN l i).getD (m.data.toList.getD i 0)
def fM(m:ByteArray)(l:List Pt)(k:Nat):List Nat:=(List.range k).map (byteN m l)
abbrev Kr(x:Nat):List AV:=[.v (.int .u8 (x:Int))]
theorem wI{m:ByteArray}{l:List Pt}{k v:Nat}(h:v=byteN m l k):fM m l k++[v]=fM m l (k+1):=by
 unfold fM;rw[jZ,eA,h];rfl
theorem MU{m:ByteArray}{l:List Pt}{k:Nat}(h:(!(qN l k).isSome)=false):lastV l k=byteN m l k:=by
 unfold lastV byteN
 cases hq:qN l k with
 |none=>rw[hq]at h;cases h
 |some b=>rfl
theorem MV{m:ByteArray}{l:List Pt}{k:Nat}(h:(!(qN l k).isSome)=true):(m.data.toList.getD k 0).toNat=byteN m l k:=by
 unfold byteN
 cases hq:qN l k with
 |none=>rfl
 |some b=>rw[hq]at h;cases h
theorem yW(m:ByteArray)(l:List Pt)(k:Nat):(fM m l k).length=k:=by unfold fM;rw[aJ,fX]
theorem GB{m:ByteArray}{l:List Pt}{k:Nat}(h:k=m.size):(⟨((List.range k).map (Kb m l)).toArray⟩:ByteArray)=mG m l:=by
 subst h;have hs:(⟨((List.range m.size).map (Kb m l)).toArray⟩:ByteArray).size=m.size:=by
  show ((List.range m.size).map (Kb m l)).toArray.size=_;rw[kH,aJ,fX]
 refine UR (by rw[hs,fD]) λ i hi=>?_;rw[hs]at hi;rw[CJ _ _ _ hi];unfold gb;rw[dY,aZ,gC hi,aO (show i<m.data.size from hi)];show some (Kb m l i)=_;unfold Kb;have hl:i<m.data.toList.length:=by rw[cW];exact hi
 cases qN l i with
 |none=>show some (m.data.toList.getD i 0)=some _;rw[bC,aA hl];rfl
 |some b=>rfl
theorem aaC{m:ByteArray}{l:List Pt}{k:Nat}:iJ (List.take (fM m l k).length (List.drop 0 ((fM m l k).map Kr)))=some ((List.range k).map (Kb m l)):=by
 rw[cH,aM (by rw[aJ];exact aC _)];unfold fM;rw[List.map_map,show (Kr∘byteN m l)=((λ b:UInt8=>[AV.v (.int .u8 (b.toNat:Int))])∘Kb m l)from rfl, ←List.map_map];exact rZ _
theorem TE(m:ByteArray)(l:List Pt)(ck:Bool)(hm:m.size≤1000000)(hl:l.length≤1000000)(ho:∀ x∈l,x.ok):bT C0 76 [.v (.string m),.sl 2 (l.map ptL) ck] (.v (.string (mG m l))):=by
 refine dc1 (bT.intro c1Ok Tryz.func76 rfl rfl (by kernel_rfl) rfl ?_);refine bK<|iG rfl<|oR 1 rfl<|rE 1<|bK<|iG rfl<|rOk rfl rfl rfl<|oR 1 rfl<|rE 3<|bK<|bK<|iG rfl<|oR 1 rfl<|rE 4<|bL<|oE (κ:=Nat×Bool) (λ z_=>match z_ with|(k,false)=>⟨slotsF [(0,.v (.string m)),(1,.sl 2 (l.map ptL) ck),(4,.v (.string (⟨#[]⟩:ByteArray))),(6,vN k),(5,.sl 1 ([]) true)],heapF [],5⟩|(k,true)=>⟨slotsF [(0,.v (.string m)),(1,.sl 2 (l.map ptL) ck),(4,.v (.string (⟨#[]⟩:ByteArray))),(6,vN k),(5,.osl 4 0 ((fM m l k).length) false)],heapF [(4,.arr ((fM m l k).map Kr) 1)],5⟩) (λ z_=>match z_ with|(k,false)=>(k≤m.size∧fM m l k=[])|(k,true)=>(k≤m.size)) (λ z_=>m.size - z_.1) (0,false) (λ s=>s) (Weak.of_lists (λ s=>s) wT trivial rfl) (⟨aD _,(show fM m l 0=[]from rfl)⟩) ?_;intro z_ hk;obtain⟨k,b_⟩:=z_;cases b_
 ·have hk_:=hk;have hnn:k≤m.size:=hk_.1;have hkB:k≤1000000:=by omega
  have hNk:fM m l k=[]:=hk_.2;have hbl:=yW m l k;refine bK<|bK<|iG rfl<|oR 2 rfl<|rOk rfl rfl rfl<|rOk rfl rfl (okB (ltN _ _))<|rE 9<|aV rfl (λ h1=>?_) (λ h1=>?_)
  ·have h1p:=of_decide_eq_true h1;refine bB<|bK<|bL<|bK<|iG rfl<|oR 2 rfl<|rCl rfl (.inl rfl) (YM l k ck hl ho (by omega))<|oR 5 rfl<|rE 17<|FF (κ:=Unit) (λ u_=>⟨slotsF [(0,.v (.string m)),(1,.sl 2 (l.map ptL) ck),(4,.v (.string (⟨#[]⟩:ByteArray))),(6,vN k),(5,.sl 1 ([]) true),(7,.v (.int .u8 ((byteN m l k:Nat):Int)))],heapF [],17⟩) (λ u_=>True) ?_ ?_
   ·refine bK<|iG rfl<|oR 2 rfl<|rE 19<|aV rfl (λ h2=>?_) (λ h2=>?_)
    ·refine iG rfl<|oR 2 rfl<|cS (x:=.v (.int .u8 (((m.data.toList.getD k 0).toNat:Nat):Int))) rfl rfl (Fh rfl) (by omega)<|oR 1 rfl<|rE 23<|.mk _ (.refl _) ⟨(),λ s=>s,Weak.of_lists (λ s=>s) ⟨⟨rfl,rfl⟩,⟨rfl,rfl⟩,⟨rfl,rfl⟩,⟨rfl,rfl⟩,⟨rfl,rfl⟩,⟨(congrArg (λ z:Nat=>AV.v (.int .u8 (z:Int))) (MV h2)),rfl⟩,trivial⟩ trivial rfl,rfl,trivial⟩
    ·refine bB<|.mk _ (.refl _) ⟨(),λ s=>s,Weak.of_lists (λ s=>s) ⟨⟨rfl,rfl⟩,⟨rfl,rfl⟩,⟨rfl,rfl⟩,⟨rfl,rfl⟩,⟨rfl,rfl⟩,⟨(congrArg (λ z:Nat=>AV.v (.int .u8 (z:Int))) (MU h2)),rfl⟩,trivial⟩ trivial rfl,rfl,trivial⟩
   ·intro u_ _;refine iG rfl<|oR 2 rfl<|rOk rfl rfl rfl<|rFx (x:=.osl 20 0 1 false) (h':=upd _ 20 (some (.arr (([(byteN m l k)]).map Kr) 1))) rfl rfl (tR Kr ([]:List Nat) ([(byteN m l k)]) omT) (⟨by exact omT,by exact omT,trivial,trivial⟩)<|oR 1 rfl<|rE 22<|iG rfl<|oR 1 rfl ?_;have b1:k+1≤1000001:=aG hkB (aC 1);refine rOk (x:=vN (k+1)) rfl rfl (okI (bU b1 rfl))<|oR 1 rfl<|rE 25 ?_;refine⟨(k+1,true),λ i=>match i with|4=>20|i=>i,Weak.of_lists (λ i=>match i with|4=>20|i=>i) ⟨⟨rfl,rfl⟩,⟨rfl,rfl⟩,⟨rfl,rfl⟩,⟨rfl,rfl⟩,⟨(show AV.osl 20 0 (1) false=AV.osl 20 0 (fM m l (k+1)).length false from by rw[←(show [(byteN m l k)]=fM m l (k+1)from (by rw[←(wI (m:=m) (l:=l) (k:=k) rfl),hNk];rfl))];first|done|rfl|(congr 1<;>(first|exact omT|simp))),rfl⟩,trivial⟩ ⟨⟨rfl,(congrArg (λ z:List Nat=>some (Blk.arr (z.map Kr) 1)) (show [(byteN m l k)]=fM m l (k+1)from (by rw[←(wI (m:=m) (l:=l) (k:=k) rfl),hNk];rfl))),rfl⟩,trivial⟩ rfl,by omega,by show m.size - (k+1)<m.size - k;omega⟩
  ·have h1p:=aE h1;refine eP<|bK<|iG rfl<|oR 1 rfl<|XB ([]) rfl rfl rfl (trivial) (rfl)<|oR 1 rfl<|rE 12<|cO ?_;exact eQ rfl trivial rfl (congrArg (λ z=>AV.v (.string z)) (by rw[←GB (m:=m) (l:=l) (k:=0) (by have:=yW m l k;rw[hNk]at this;have z:(0:Nat)=k:=this;omega)];rfl))
 ·have hk_:=hk;have hnn:k≤m.size:=hk_;have hkB:k≤1000000:=by omega
  have habk:(fM m l k).length≤1000000:=(by rw[yW];omega);have hbl:=yW m l k;refine bK<|bK<|iG rfl<|oR 2 rfl<|rOk rfl rfl rfl<|rOk rfl rfl (okB (ltN _ _))<|rE 9<|aV rfl (λ h3=>?_) (λ h3=>?_)
  ·have h3p:=of_decide_eq_true h3;refine bB<|bK<|bL<|bK<|iG rfl<|oR 2 rfl<|rCl rfl (.inl rfl) (YM l k ck hl ho (by omega))<|oR 5 rfl<|rE 17<|FF (κ:=Unit) (λ u_=>⟨slotsF [(0,.v (.string m)),(1,.sl 2 (l.map ptL) ck),(4,.v (.string (⟨#[]⟩:ByteArray))),(6,vN k),(5,.osl 4 0 ((fM m l k).length) false),(7,.v (.int .u8 ((byteN m l k:Nat):Int)))],heapF [(4,.arr ((fM m l k).map Kr) 1)],17⟩) (λ u_=>True) ?_ ?_
   ·refine bK<|iG rfl<|oR 2 rfl<|rE 19<|aV rfl (λ h4=>?_) (λ h4=>?_)
    ·refine iG rfl<|oR 2 rfl<|cS (x:=.v (.int .u8 (((m.data.toList.getD k 0).toNat:Nat):Int))) rfl rfl (Fh rfl) (by omega)<|oR 1 rfl<|rE 23<|.mk _ (.refl _) ⟨(),λ s=>s,Weak.of_lists (λ s=>s) ⟨⟨rfl,rfl⟩,⟨rfl,rfl⟩,⟨rfl,rfl⟩,⟨rfl,rfl⟩,⟨rfl,rfl⟩,⟨(congrArg (λ z:Nat=>AV.v (.int .u8 (z:Int))) (MV h4)),rfl⟩,trivial⟩ wH rfl,rfl,trivial⟩
    ·refine bB<|.mk _ (.refl _) ⟨(),λ s=>s,Weak.of_lists (λ s=>s) ⟨⟨rfl,rfl⟩,⟨rfl,rfl⟩,⟨rfl,rfl⟩,⟨rfl,rfl⟩,⟨rfl,rfl⟩,⟨(congrArg (λ z:Nat=>AV.v (.int .u8 (z:Int))) (MU h4)),rfl⟩,trivial⟩ wH rfl,rfl,trivial⟩
   ·intro u_ _;refine iG rfl<|oR 2 rfl<|rOk rfl rfl rfl<|rFx (x:=.osl 20 0 ((fM m l k).length+1) false) (h':=upd (upd _ 4 none) 20 (some (.arr (((fM m l k)++([(byteN m l k)])).map Kr) 1))) rfl rfl (gT Kr (fM m l k) ([(byteN m l k)]) omT omT) (⟨by exact omT,by exact omT,trivial⟩)<|oR 1 rfl<|rE 22<|iG rfl<|oR 1 rfl ?_;have b2:k+1≤1000001:=aG hkB (aC 1);refine rOk (x:=vN (k+1)) rfl rfl (okI (bU b2 rfl))<|oR 1 rfl<|rE 25 ?_;refine⟨(k+1,true),λ i=>match i with|4=>20|i=>i,Weak.of_lists (λ i=>match i with|4=>20|i=>i) ⟨⟨rfl,rfl⟩,⟨rfl,rfl⟩,⟨rfl,rfl⟩,⟨rfl,rfl⟩,⟨(show AV.osl 20 0 ((fM m l k).length+1) false=AV.osl 20 0 (fM m l (k+1)).length false from by rw[←(show (fM m l k)++([(byteN m l k)])=fM m l (k+1)from wI (m:=m) (l:=l) (k:=k) rfl)];first|done|rfl|(congr 1<;>(first|exact omT|simp))),rfl⟩,trivial⟩ ⟨⟨rfl,(congrArg (λ z:List Nat=>some (Blk.arr (z.map Kr) 1)) (show (fM m l k)++([(byteN m l k)])=fM m l (k+1)from wI (m:=m) (l:=l) (k:=k) rfl)),rfl⟩,trivial⟩ rfl,by omega,by show m.size - (k+1)<m.size - k;omega⟩
  ·have h3p:=aE h3;refine eP<|bK<|iG rfl<|oR 1 rfl<|XB ((List.range k).map (Kb m l)) rfl rfl rfl ((by show 0+(fM m l k).length≤((fM m l k).map Kr).length;rw[aJ];omega)) (aaC)<|oR 1 rfl<|rE 12<|cO ?_;exact eQ rfl trivial rfl (congrArg (λ z=>AV.v (.string z)) (GB (by omega)))
theorem Oa{q:List Req}{k:Nat}{x:Req}(hx:q[k]?=some x)(h:bX q=[]): ¬ x.kind=4:=λ z=>by
 unfold bX at h;rw[List.map_eq_nil_iff,List.filter_eq_nil_iff]at h;exact h x (aB hx) (by simp[z])
theorem Iu(q:List Req)(ck:Bool)(hq:q.length≤900000)(ho:∀ x∈q,x.ok)(hW:bX q=[]):bT C0 74 [.sl 4 (q.map rqL) ck] (.sl 2 [] true):=by
 refine dc1 (bT.intro c1Ok Tryz.func74 rfl rfl (by kernel_rfl) rfl ?_);refine bK<|iG rfl<|oR 1 rfl<|rE 1<|bK<|iG rfl<|rOk rfl rfl rfl<|oR 1 rfl<|rE 3<|bK<|bK<|iG rfl<|oR 1 rfl<|rOk rfl rfl (cG rqL q)<|oR 1 rfl<|rE 6<|bL<|oE (κ:=Nat) (λ k=>⟨slotsF [(2,.sl 0 ([]) true),(7,.sl 4 (q.map rqL) ck),(8,vN q.length),(3,.sl 2 ([]) true),(9,vN k)],heapF [],6⟩) (λ k=>k≤q.length) (λ k=>q.length - k) 0 (λ s=>s) (Weak.of_lists (λ s=>s) wT trivial rfl) (aD _) ?_;intro k hk;have hkn:k≤q.length:=hk;have hkB:k≤900000:=by omega
 refine bK<|iG rfl<|rOk rfl rfl (okB (ltN _ _))<|rE 7<|bK<|aV rfl (λ h1=>?_) (λ h1=>?_)
 ·have h1p:=of_decide_eq_true h1;refine bB<|bK<|bL<|bK<|iG rfl ?_;obtain⟨x,hx⟩:∃ y_,q[k]?=some y_:=⟨_,aA omT⟩;have hxo:=ho x (aB hx);refine CP (rqL x) (x:=.dp 4 0 (rqL x)) rfl rfl rfl (⟨aF _,jH hx⟩) rfl<|oR 1 rfl<|rAl 9 rfl rfl<|rSt rfl<|rE 11<|bK<|iG rfl<|oR 2 rfl<|rOk rfl rfl rfl<|rE 14<|aV rfl (λ h2=>by exact absurd (eq_of_beq h2) (Oa hx hW)) (λ _=>?_);refine bB<|iG rfl ?_;have b1:k+1≤900001:=aG hkB (aC 1);refine rOk (x:=vN (k+1)) rfl rfl (okI (bU b1 rfl))<|oR 1 rfl<|rE 16 ?_;refine⟨k+1,λ s=>s,Weak.of_lists (λ s=>s) wT trivial rfl,by omega,by show q.length - (k+1)<q.length - k;omega⟩
 ·have h1p:=aE h1;refine eP<|bK<|iG rfl<|oR 2 rfl<|rE 9<|cO ?_;exact eQ rfl trivial rfl rfl
theorem TF(q:List Req)(ck:Bool)(hq:q.length≤900000)(ho:∀ x∈q,x.ok)(hW:bX q≠[]):pL C0.P C0.G 74 [.sl 4 (q.map rqL) ck] (heapF []) 0 (λ x h'=>x=.osl 0 0 (bX q).length false∧h'=heapF [(0,.arr ((bX q).map ptL) 2)]):=by
 refine HCall.intro (C:=C1) (s:=0) c1Ok.at Tryz.func74 rfl rfl (by kernel_rfl) rfl rfl<|bK<|iG rfl<|oR 1 rfl<|rE 1<|bK<|iG rfl<|rOk rfl rfl rfl<|oR 1 rfl<|rE 3<|bK<|bK<|iG rfl<|oR 1 rfl<|rOk rfl rfl (cG rqL q)<|oR 1 rfl<|rE 6<|bL<|rH (κ:=Nat×Bool) (λ z_=>match z_ with|(k,false)=>⟨slotsF [(2,.sl 0 ([]) true),(7,.sl 4 (q.map rqL) ck),(8,vN q.length),(9,vN k),(3,.sl 2 ([]) true)],heapF [],7⟩|(k,true)=>⟨slotsF [(2,.sl 0 ([]) true),(7,.sl 4 (q.map rqL) ck),(8,vN q.length),(9,vN k),(3,.osl 6 0 ((bX (q.take k)).length) false)],heapF [(6,.arr ((bX (q.take k)).map ptL) 2)],7⟩) (λ z_=>match z_ with|(k,false)=>(k≤q.length∧bX (q.take k)=[])|(k,true)=>(k≤q.length)) (λ z_=>q.length - z_.1) (0,false) (λ s=>s) (Weak.of_lists (λ s=>s) wT trivial rfl) rfl (⟨aD _,(show bX (q.take 0)=[]from rfl)⟩) ?_;intro z_ hk;obtain⟨k,b_⟩:=z_;cases b_
 ·have hk_:=hk;have hnn:k≤q.length:=hk_.1;have hkB:k≤1000000:=by omega
  have hNk:bX (q.take k)=[]:=hk_.2;refine bK<|iG rfl<|rOk rfl rfl (okB (ltN _ _))<|rE 8<|bK<|aV rfl (λ h1=>?_) (λ h1=>?_)
  ·have h1p:=of_decide_eq_true h1;refine bB<|bK<|bL<|bK<|iG rfl ?_;obtain⟨x,hx⟩:∃ y_,q[k]?=some y_:=⟨_,aA omT⟩;have hxo:=ho x (aB hx);refine CP (rqL x) (x:=.dp 4 0 (rqL x)) rfl rfl rfl (⟨aF _,jH hx⟩) rfl<|oR 1 rfl<|rAl 10 rfl rfl<|rSt rfl<|rE 12<|bK<|iG rfl<|oR 2 rfl<|rOk rfl rfl rfl<|rE 15<|aV rfl (λ h2=>?_) (λ h2=>?_)
   ·have h2p:=mC h2;refine iG rfl<|oR 5 rfl<|rOk rfl rfl rfl<|rOk rfl rfl rfl<|rFx (x:=.osl 22 0 1 false) (h':=upd _ 22 (some (.arr (([(⟨x.line,x.data⟩:Pt)]).map ptL) 2))) rfl rfl (tR ptL ([]:List Pt) ([(⟨x.line,x.data⟩:Pt)]) omT) (⟨by exact omT,by exact omT,trivial,trivial⟩)<|oR 1 rfl<|rE 24<|iG rfl ?_;have b1:k+1≤1000001:=aG hkB (aC 1);refine rOk (x:=vN (k+1)) rfl rfl (okI (bU b1 rfl))<|oR 1 rfl<|rE 26<|.mk _ (.refl _) ⟨(k+1,true),λ i=>match i with|6=>22|i=>i,Weak.of_lists (λ i=>match i with|6=>22|i=>i) ⟨⟨rfl,rfl⟩,⟨rfl,rfl⟩,⟨rfl,rfl⟩,⟨rfl,rfl⟩,⟨(show AV.osl 22 0 (1) false=AV.osl 22 0 (bX (q.take (k+1))).length false from by rw[←(show [(⟨x.line,x.data⟩:Pt)]=bX (q.take (k+1))from (by rw[←(qY hx h2p),hNk];rfl))];first|done|rfl|(congr 1<;>(first|exact omT|simp))),rfl⟩,trivial⟩ ⟨⟨rfl,(congrArg (λ z:List Pt=>some (Blk.arr (z.map ptL) 2)) (show [(⟨x.line,x.data⟩:Pt)]=bX (q.take (k+1))from (by rw[←(qY hx h2p),hNk];rfl))),rfl⟩,trivial⟩ rfl,rfl,by omega,by show q.length - (k+1)<q.length - k;omega⟩
   ·have h2p:=mD h2;refine bB<|iG rfl ?_;have b2:k+1≤1000001:=aG hkB (aC 1);refine rOk (x:=vN (k+1)) rfl rfl (okI (bU b2 rfl))<|oR 1 rfl<|rE 17<|.mk _ (.refl _) ⟨(k+1,false),λ i=>i,Weak.of_lists (λ i=>i) wT trivial rfl,rfl,⟨by omega,(by rw[←(xH hx h2p)];exact hNk)⟩,by show q.length - (k+1)<q.length - k;omega⟩
  ·have h1p:=aE h1;refine eP<|bK<|iG rfl<|oR 2 rfl<|rE 10<|cO ?_;exact absurd (by rw[←hNk,aM (by omega)]) hW
 ·have hk_:=hk;have hnn:k≤q.length:=hk_;have hkB:k≤1000000:=by omega
  have habk:(bX (q.take k)).length≤900000:=(by have:=vC (q.take k);rw[aN]at this;omega);refine bK<|iG rfl<|rOk rfl rfl (okB (ltN _ _))<|rE 8<|bK<|aV rfl (λ h3=>?_) (λ h3=>?_)
  ·have h3p:=of_decide_eq_true h3;refine bB<|bK<|bL<|bK<|iG rfl ?_;obtain⟨x,hx⟩:∃ y_,q[k]?=some y_:=⟨_,aA omT⟩;have hxo:=ho x (aB hx);refine CP (rqL x) (x:=.dp 4 0 (rqL x)) rfl rfl rfl (⟨aF _,jH hx⟩) rfl<|oR 1 rfl<|rAl 10 rfl rfl<|rSt rfl<|rE 12<|bK<|iG rfl<|oR 2 rfl<|rOk rfl rfl rfl<|rE 15<|aV rfl (λ h4=>?_) (λ h4=>?_)
   ·have h4p:=mC h4;refine iG rfl<|oR 5 rfl<|rOk rfl rfl rfl<|rOk rfl rfl rfl<|rFx (x:=.osl 22 0 ((bX (q.take k)).length+1) false) (h':=upd (upd _ 6 none) 22 (some (.arr (((bX (q.take k))++([(⟨x.line,x.data⟩:Pt)])).map ptL) 2))) rfl rfl (gT ptL (bX (q.take k)) ([(⟨x.line,x.data⟩:Pt)]) omT omT) (⟨by exact omT,by exact omT,trivial⟩)<|oR 1 rfl<|rE 24<|iG rfl ?_;have b3:k+1≤1000001:=aG hkB (aC 1);refine rOk (x:=vN (k+1)) rfl rfl (okI (bU b3 rfl))<|oR 1 rfl<|rE 26<|.mk _ (.refl _) ⟨(k+1,true),λ i=>match i with|6=>22|i=>i,Weak.of_lists (λ i=>match i with|6=>22|i=>i) ⟨⟨rfl,rfl⟩,⟨rfl,rfl⟩,⟨rfl,rfl⟩,⟨rfl,rfl⟩,⟨(show AV.osl 22 0 ((bX (q.take k)).length+1) false=AV.osl 22 0 (bX (q.take (k+1))).length false from by rw[←(show (bX (q.take k))++([(⟨x.line,x.data⟩:Pt)])=bX (q.take (k+1))from qY hx h4p)];first|done|rfl|(congr 1<;>(first|exact omT|simp))),rfl⟩,trivial⟩ ⟨⟨rfl,(congrArg (λ z:List Pt=>some (Blk.arr (z.map ptL) 2)) (show (bX (q.take k))++([(⟨x.line,x.data⟩:Pt)])=bX (q.take (k+1))from qY hx h4p)),rfl⟩,trivial⟩ rfl,rfl,by omega,by show q.length - (k+1)<q.length - k;omega⟩
   ·have h4p:=mD h4;refine bB<|iG rfl ?_;have b4:k+1≤1000001:=aG hkB (aC 1);refine rOk (x:=vN (k+1)) rfl rfl (okI (bU b4 rfl))<|oR 1 rfl<|rE 17<|.mk _ (.refl _) ⟨(k+1,true),λ i=>i,Weak.of_lists (λ i=>i) ⟨⟨rfl,rfl⟩,⟨rfl,rfl⟩,⟨rfl,rfl⟩,⟨rfl,rfl⟩,⟨(congrArg (λ z:List Pt=>AV.osl 6 0 z.length false) (xH hx h4p)),rfl⟩,trivial⟩ ⟨⟨rfl,(congrArg (λ z:List Pt=>some (Blk.arr (z.map ptL) 2)) (xH hx h4p)),rfl⟩,trivial⟩ rfl,rfl,by omega,by show q.length - (k+1)<q.length - k;omega⟩
  ·have h3p:=aE h3;refine eP<|bK<|iG rfl<|oR 2 rfl<|rE 10<|cO ?_;have hT:bX (q.take k)=bX q:=by rw[aM (by omega)]
   exact pE (rs:=[.osl 6 0 ((bX (q.take k)).length) false]) rfl (r:=.osl 0 0 (bX q).length false) (σ:=λ _=>6) ⟨rfl,rfl⟩ rfl (cB (λ _=>6) (by show AV.osl 6 0 (bX (q.take k)).length false=AV.osl 6 0 (bX q).length false;rw[hT]) rfl ⟨⟨rfl,(by show some (Blk.arr ((bX (q.take k)).map ptL) 2)=some (Blk.arr ((bX q).map ptL) 2);rw[hT]),rfl⟩,trivial⟩ rfl)
theorem Ob{c:Ca}(h:iD c=[]){k:Nat}{s:List Wy}(hs:c.sets[k]?=some s):s.length=0:=by
 cases s with
 |nil=>rfl
 |cons w t=>
  unfold iD at h;rw[List.map_eq_nil_iff]at h;have:w∈c.sets.flatten:=List.mem_flatten.2 ⟨_,aB hs,al_List_mem_cons_self⟩;rw[h]at this;exact absurd this List.not_mem_nil
theorem Ly(c:Ca)(hok:c.ok)(hc4:c.sets.length≤4)(hc2:∀ s∈c.sets,s.length≤2)(hL:iD c=[]):bT C0 75 [.agg (caL c false)] (.sl 2 [] true):=by
 refine dc1 (bT.intro c1Ok Tryz.func75 rfl rfl (by kernel_rfl) rfl ?_);refine bK<|iG rfl<|rAl 0 rfl rfl<|oR 1 rfl<|rE 2<|bK<|iG rfl<|rOk rfl rfl rfl<|oR 1 rfl<|rE 4<|bK<|bK<|iG rfl<|oR 2 rfl<|rOk rfl rfl (cG cE c.sets)<|oR 1 rfl<|rE 8<|bL<|oE (κ:=Nat) (λ k=>⟨slotsF [(2,.sl 0 ([]) true),(10,.sl 1 (c.sets.map cE) false),(11,vN c.sets.length),(3,.sl 2 ([]) true),(12,vN k)],heapF [(0,.box [vI c.ways,.sl 1 (c.sets.map cE) false])],8⟩) (λ k=>k≤c.sets.length) (λ k=>c.sets.length - k) 0 (λ s=>s) (Weak.of_lists (λ s=>s) wT wH rfl) (aD _) ?_;intro k hk;have hkn:k≤c.sets.length:=hk;have hkB:k≤1000000:=by omega
 refine bK<|iG rfl<|rOk rfl rfl (okB (ltN _ _))<|rE 9<|bK<|aV rfl (λ h1=>?_) (λ h1=>?_)
 ·have h1p:=of_decide_eq_true h1;refine bB<|bK<|bL<|bK<|iG rfl ?_;obtain⟨s,hs⟩:∃ y_,c.sets[k]?=some y_:=⟨_,aA omT⟩;have hso:=hok.set s (aB hs);have hsl:s.length≤2:=hc2 s (aB hs);refine CP (cE s) (x:=.dp 1 0 (cE s)) rfl rfl rfl (⟨aF _,jH hs⟩) rfl<|oR 2 rfl<|rE 12<|bK<|iG rfl<|oR 1 rfl<|rOk rfl rfl (cG wyL s)<|oR 1 rfl<|rE 15<|bL<|oE (κ:=Unit) (λ u_=>⟨slotsF [(2,.sl 0 ([]) true),(10,.sl 1 (c.sets.map cE) false),(11,vN c.sets.length),(3,.sl 2 ([]) true),(12,vN k),(13,vB (decide (k<c.sets.length))),(14,.dp 1 0 (cE s)),(15,.sl 3 (s.map wyL) false),(5,.sl 3 (s.map wyL) false),(16,.sl 3 (s.map wyL) false),(17,vN s.length),(18,vN 0)],heapF [(0,.box [vI c.ways,.sl 1 (c.sets.map cE) false])],15⟩) (λ u_=>True) (λ u_=>0) () (λ s=>s) (Weak.of_lists (λ s=>s) wT wH rfl) trivial ?_;intro u_ _;refine bK<|iG rfl<|rOk rfl rfl (okB (ltN _ _))<|rE 16<|bK<|aV rfl (λ h2=>by exact absurd (of_decide_eq_true h2) (by have:=Ob hL hs;omega)) (λ _=>?_);refine eP<|iG rfl ?_;have b1:k+1≤1000001:=aG hkB (aC 1);refine rOk (x:=vN (k+1)) rfl rfl (okI (bU b1 rfl))<|oR 1 rfl<|rE 18 ?_;refine⟨k+1,λ s=>s,Weak.of_lists (λ s=>s) wT wH rfl,by omega,by show c.sets.length - (k+1)<c.sets.length - k;omega⟩
 ·have h1p:=aE h1;refine eP<|bK<|iG rfl<|oR 2 rfl<|rE 11<|cO ?_;exact eQ rfl trivial rfl rfl
theorem WO(c:Ca)(hok:c.ok)(hc4:c.sets.length≤4)(hc2:∀ s∈c.sets,s.length≤2)(hL:iD c≠[]):bT C0 75 [.agg (caL c false)] (.sl 2 ((iD c).map ptL) false):=by
 refine dc1 (bT.intro c1Ok Tryz.func75 rfl rfl (by kernel_rfl) rfl ?_);refine bK<|iG rfl<|rAl 0 rfl rfl<|oR 1 rfl<|rE 2<|bK<|iG rfl<|rOk rfl rfl rfl<|oR 1 rfl<|rE 4<|bK<|bK<|iG rfl<|oR 2 rfl<|rOk rfl rfl (cG cE c.sets)<|oR 1 rfl<|rE 8<|bL<|oE (κ:=Nat×Bool) (λ z_=>match z_ with|(k,false)=>⟨slotsF [(2,.sl 0 ([]) true),(10,.sl 1 (c.sets.map cE) false),(11,vN c.sets.length),(12,vN k),(3,.sl 2 ([]) true)],heapF [(0,.box [vI c.ways,.sl 1 (c.sets.map cE) false])],9⟩|(k,true)=>⟨slotsF [(2,.sl 0 ([]) true),(10,.sl 1 (c.sets.map cE) false),(11,vN c.sets.length),(12,vN k),(3,.osl 8 0 ((dX c k).length) false)],heapF [(0,.box [vI c.ways,.sl 1 (c.sets.map cE) false]),(8,.arr ((dX c k).map ptL) 2)],9⟩) (λ z_=>match z_ with|(k,false)=>(k≤c.sets.length∧dX c k=[])|(k,true)=>(k≤c.sets.length)) (λ z_=>c.sets.length - z_.1) (0,false) (λ s=>s) (Weak.of_lists (λ s=>s) wT wH rfl) (⟨aD _,(show dX c 0=[]from rfl)⟩) ?_;intro z_ hk;obtain⟨k,b_⟩:=z_;cases b_
 ·have hk_:=hk;have hnn:k≤c.sets.length:=hk_.1;have hkB:k≤1000000:=by omega
  have hNk:dX c k=[]:=hk_.2;refine bK<|iG rfl<|rOk rfl rfl (okB (ltN _ _))<|rE 10<|bK<|aV rfl (λ h1=>?_) (λ h1=>?_)
  ·have h1p:=of_decide_eq_true h1;refine bB<|bK<|bL<|bK<|iG rfl ?_;obtain⟨s,hs⟩:∃ y_,c.sets[k]?=some y_:=⟨_,aA omT⟩;have hso:=hok.set s (aB hs);have hsl:s.length≤2:=hc2 s (aB hs);refine CP (cE s) (x:=.dp 1 0 (cE s)) rfl rfl rfl (⟨aF _,jH hs⟩) rfl<|oR 2 rfl<|rE 13<|bK<|iG rfl<|oR 1 rfl<|rOk rfl rfl (cG wyL s)<|oR 1 rfl<|rE 16<|bL<|oE (κ:=Nat×Bool) (λ z_=>match z_ with|(j,false)=>⟨slotsF [(2,.sl 0 ([]) true),(10,.sl 1 (c.sets.map cE) false),(11,vN c.sets.length),(12,vN k),(13,vB (decide (k<c.sets.length))),(14,.dp 1 0 (cE s)),(15,.sl 3 (s.map wyL) false),(5,.sl 3 (s.map wyL) false),(16,.sl 3 (s.map wyL) false),(17,vN s.length),(18,vN j),(3,.sl 2 ([]) true)],heapF [(0,.box [vI c.ways,.sl 1 (c.sets.map cE) false])],17⟩|(j,true)=>⟨slotsF [(2,.sl 0 ([]) true),(10,.sl 1 (c.sets.map cE) false),(11,vN c.sets.length),(12,vN k),(13,vB (decide (k<c.sets.length))),(14,.dp 1 0 (cE s)),(15,.sl 3 (s.map wyL) false),(5,.sl 3 (s.map wyL) false),(16,.sl 3 (s.map wyL) false),(17,vN s.length),(18,vN j),(3,.osl 16 0 ((cT c k s j).length) false)],heapF [(0,.box [vI c.ways,.sl 1 (c.sets.map cE) false]),(16,.arr ((cT c k s j).map ptL) 2)],17⟩) (λ z_=>match z_ with|(j,false)=>(j≤s.length∧cT c k s j=[])|(j,true)=>(j≤s.length)) (λ z_=>s.length - z_.1) (0,false) (λ s=>s) (Weak.of_lists (λ s=>s) wT wH rfl) (⟨aD _,(show cT c k s 0=[]from (sY c k s).symm.trans hNk)⟩) ?_;intro z_ hj;obtain⟨j,b_⟩:=z_;cases b_
   ·have hj_:=hj;have hnn:j≤s.length:=hj_.1;have hjB:j≤1000000:=by omega
    have hNj:cT c k s j=[]:=hj_.2;refine bK<|iG rfl<|rOk rfl rfl (okB (ltN _ _))<|rE 18<|bK<|aV rfl (λ h2=>?_) (λ h2=>?_)
    ·have h2p:=of_decide_eq_true h2;refine bB<|bK<|bL<|bK<|iG rfl ?_;obtain⟨x,hx⟩:∃ y_,s[j]?=some y_:=⟨_,aA omT⟩;have hxo:=hso.2 x (aB hx);refine CP (wyL x) (x:=.dp 3 0 (wyL x)) rfl rfl rfl (⟨aF _,jH hx⟩) rfl<|oR 1 rfl<|rAl 20 rfl rfl<|rSt rfl<|rE 22<|iG rfl<|oR 5 rfl<|rOk rfl rfl rfl<|rOk rfl rfl rfl<|rFx (x:=.osl 29 0 1 false) (h':=upd _ 29 (some (.arr (([(⟨x.line,x.data⟩:Pt)]).map ptL) 2))) rfl rfl (tR ptL ([]:List Pt) ([(⟨x.line,x.data⟩:Pt)]) omT) (⟨by exact omT,by exact omT,trivial,trivial⟩)<|oR 1 rfl<|rE 31<|iG rfl ?_;have b1:j+1≤1000001:=aG hjB (aC 1);refine rOk (x:=vN (j+1)) rfl rfl (okI (bU b1 rfl))<|oR 1 rfl<|rE 33 ?_;refine⟨(j+1,true),λ i=>match i with|16=>29|i=>i,Weak.of_lists (λ i=>match i with|16=>29|i=>i) ⟨⟨rfl,rfl⟩,⟨rfl,rfl⟩,⟨rfl,rfl⟩,⟨rfl,rfl⟩,⟨rfl,rfl⟩,⟨rfl,rfl⟩,⟨rfl,rfl⟩,⟨rfl,rfl⟩,⟨rfl,rfl⟩,⟨rfl,rfl⟩,⟨rfl,rfl⟩,⟨(show AV.osl 29 0 (1) false=AV.osl 29 0 (cT c k s (j+1)).length false from by rw[←(show [(⟨x.line,x.data⟩:Pt)]=cT c k s (j+1)from (by rw[←(iY hx),hNj];rfl))];first|done|rfl|(congr 1<;>(first|exact omT|simp))),rfl⟩,trivial⟩ ⟨⟨rfl,rfl,rfl⟩,⟨rfl,(congrArg (λ z:List Pt=>some (Blk.arr (z.map ptL) 2)) (show [(⟨x.line,x.data⟩:Pt)]=cT c k s (j+1)from (by rw[←(iY hx),hNj];rfl))),rfl⟩,trivial⟩ rfl,by omega,by show s.length - (j+1)<s.length - j;omega⟩
    ·have h2p:=aE h2;refine eP<|iG rfl ?_;have b2:k+1≤1000001:=aG hkB (aC 1);refine rOk (x:=vN (k+1)) rfl rfl (okI (bU b2 rfl))<|oR 1 rfl<|rE 20 ?_;refine⟨(k+1,false),λ i=>i,Weak.of_lists (λ i=>i) wT wH rfl,⟨by omega,(by rw[←mS (j:=j) hs (by omega)];exact hNj)⟩,by show c.sets.length - (k+1)<c.sets.length - k;omega⟩
   ·have hj_:=hj;have hnn:j≤s.length:=hj_;have hjB:j≤1000000:=by omega
    have habj:(cT c k s j).length≤10:=(BP hc4 hc2 hsl);refine bK<|iG rfl<|rOk rfl rfl (okB (ltN _ _))<|rE 18<|bK<|aV rfl (λ h3=>?_) (λ h3=>?_)
    ·have h3p:=of_decide_eq_true h3;refine bB<|bK<|bL<|bK<|iG rfl ?_;obtain⟨x,hx⟩:∃ y_,s[j]?=some y_:=⟨_,aA omT⟩;have hxo:=hso.2 x (aB hx);refine CP (wyL x) (x:=.dp 3 0 (wyL x)) rfl rfl rfl (⟨aF _,jH hx⟩) rfl<|oR 1 rfl<|rAl 20 rfl rfl<|rSt rfl<|rE 22<|iG rfl<|oR 5 rfl<|rOk rfl rfl rfl<|rOk rfl rfl rfl<|rFx (x:=.osl 29 0 ((cT c k s j).length+1) false) (h':=upd (upd _ 16 none) 29 (some (.arr (((cT c k s j)++([(⟨x.line,x.data⟩:Pt)])).map ptL) 2))) rfl rfl (gT ptL (cT c k s j) ([(⟨x.line,x.data⟩:Pt)]) omT omT) (⟨by exact omT,by exact omT,trivial⟩)<|oR 1 rfl<|rE 31<|iG rfl ?_;have b3:j+1≤1000001:=aG hjB (aC 1);refine rOk (x:=vN (j+1)) rfl rfl (okI (bU b3 rfl))<|oR 1 rfl<|rE 33 ?_;refine⟨(j+1,true),λ i=>match i with|16=>29|i=>i,Weak.of_lists (λ i=>match i with|16=>29|i=>i) ⟨⟨rfl,rfl⟩,⟨rfl,rfl⟩,⟨rfl,rfl⟩,⟨rfl,rfl⟩,⟨rfl,rfl⟩,⟨rfl,rfl⟩,⟨rfl,rfl⟩,⟨rfl,rfl⟩,⟨rfl,rfl⟩,⟨rfl,rfl⟩,⟨rfl,rfl⟩,⟨(show AV.osl 29 0 ((cT c k s j).length+1) false=AV.osl 29 0 (cT c k s (j+1)).length false from by rw[←(show (cT c k s j)++([(⟨x.line,x.data⟩:Pt)])=cT c k s (j+1)from iY hx)];first|done|rfl|(congr 1<;>(first|exact omT|simp))),rfl⟩,trivial⟩ ⟨⟨rfl,rfl,rfl⟩,⟨rfl,(congrArg (λ z:List Pt=>some (Blk.arr (z.map ptL) 2)) (show (cT c k s j)++([(⟨x.line,x.data⟩:Pt)])=cT c k s (j+1)from iY hx)),rfl⟩,trivial⟩ rfl,by omega,by show s.length - (j+1)<s.length - j;omega⟩
    ·have h3p:=aE h3;refine eP<|iG rfl ?_;have b4:k+1≤1000001:=aG hkB (aC 1);refine rOk (x:=vN (k+1)) rfl rfl (okI (bU b4 rfl))<|oR 1 rfl<|rE 20 ?_;refine⟨(k+1,true),λ i=>match i with|8=>16|i=>i,Weak.of_lists (λ i=>match i with|8=>16|i=>i) ⟨⟨rfl,rfl⟩,⟨rfl,rfl⟩,⟨rfl,rfl⟩,⟨rfl,rfl⟩,⟨(show AV.osl 16 0 ((cT c k s j).length) false=AV.osl 16 0 (dX c (k+1)).length false from by rw[←(show cT c k s j=dX c (k+1)from mS hs (by omega))];first|done|rfl|(congr 1<;>(first|exact omT|simp))),rfl⟩,trivial⟩ ⟨⟨rfl,rfl,rfl⟩,⟨rfl,(congrArg (λ z:List Pt=>some (Blk.arr (z.map ptL) 2)) (show cT c k s j=dX c (k+1)from mS hs (by omega))),rfl⟩,trivial⟩ rfl,by omega,by show c.sets.length - (k+1)<c.sets.length - k;omega⟩
  ·have h1p:=aE h1;refine eP<|bK<|iG rfl<|oR 2 rfl<|rE 12<|cO ?_;exact absurd ((sZ (by omega)).symm.trans hNk) hL
 ·have hk_:=hk;have hnn:k≤c.sets.length:=hk_;have hkB:k≤1000000:=by omega
  have habk:(dX c k).length≤8:=(BO hc4 hc2);refine bK<|iG rfl<|rOk rfl rfl (okB (ltN _ _))<|rE 10<|bK<|aV rfl (λ h4=>?_) (λ h4=>?_)
  ·have h4p:=of_decide_eq_true h4;refine bB<|bK<|bL<|bK<|iG rfl ?_;obtain⟨s,hs⟩:∃ y_,c.sets[k]?=some y_:=⟨_,aA omT⟩;have hso:=hok.set s (aB hs);have hsl:s.length≤2:=hc2 s (aB hs);refine CP (cE s) (x:=.dp 1 0 (cE s)) rfl rfl rfl (⟨aF _,jH hs⟩) rfl<|oR 2 rfl<|rE 13<|bK<|iG rfl<|oR 1 rfl<|rOk rfl rfl (cG wyL s)<|oR 1 rfl<|rE 16<|bL<|oE (κ:=Nat) (λ j=>⟨slotsF [(2,.sl 0 ([]) true),(10,.sl 1 (c.sets.map cE) false),(11,vN c.sets.length),(12,vN k),(13,vB (decide (k<c.sets.length))),(14,.dp 1 0 (cE s)),(15,.sl 3 (s.map wyL) false),(5,.sl 3 (s.map wyL) false),(16,.sl 3 (s.map wyL) false),(17,vN s.length),(18,vN j),(3,.osl 16 0 ((cT c k s j).length) false)],heapF [(0,.box [vI c.ways,.sl 1 (c.sets.map cE) false]),(16,.arr ((cT c k s j).map ptL) 2)],17⟩) (λ j=>j≤s.length) (λ j=>s.length - j) 0 (λ i=>match i with|16=>8|i=>i) (Weak.of_lists (λ i=>match i with|16=>8|i=>i) ⟨⟨rfl,rfl⟩,⟨rfl,rfl⟩,⟨rfl,rfl⟩,⟨rfl,rfl⟩,⟨rfl,rfl⟩,⟨rfl,rfl⟩,⟨rfl,rfl⟩,⟨rfl,rfl⟩,⟨rfl,rfl⟩,⟨rfl,rfl⟩,⟨rfl,rfl⟩,⟨(show AV.osl 8 0 ((dX c k).length) false=AV.osl 8 0 (cT c k s 0).length false from by rw[←(show dX c k=cT c k s 0 from sY c k s)]),rfl⟩,trivial⟩ ⟨⟨rfl,rfl,rfl⟩,⟨rfl,(congrArg (λ z:List Pt=>some (Blk.arr (z.map ptL) 2)) (show dX c k=cT c k s 0 from sY c k s)),rfl⟩,trivial⟩ rfl) (aD _) ?_;intro j hj;have hj_:=hj;have hnn:j≤s.length:=hj_;have hjB:j≤1000000:=by omega
   have habj:(cT c k s j).length≤10:=(BP hc4 hc2 hsl);refine bK<|iG rfl<|rOk rfl rfl (okB (ltN _ _))<|rE 18<|bK<|aV rfl (λ h5=>?_) (λ h5=>?_)
   ·have h5p:=of_decide_eq_true h5;refine bB<|bK<|bL<|bK<|iG rfl ?_;obtain⟨x,hx⟩:∃ y_,s[j]?=some y_:=⟨_,aA omT⟩;have hxo:=hso.2 x (aB hx);refine CP (wyL x) (x:=.dp 3 0 (wyL x)) rfl rfl rfl (⟨aF _,jH hx⟩) rfl<|oR 1 rfl<|rAl 20 rfl rfl<|rSt rfl<|rE 22<|iG rfl<|oR 5 rfl<|rOk rfl rfl rfl<|rOk rfl rfl rfl<|rFx (x:=.osl 29 0 ((cT c k s j).length+1) false) (h':=upd (upd _ 16 none) 29 (some (.arr (((cT c k s j)++([(⟨x.line,x.data⟩:Pt)])).map ptL) 2))) rfl rfl (gT ptL (cT c k s j) ([(⟨x.line,x.data⟩:Pt)]) omT omT) (⟨by exact omT,by exact omT,trivial⟩)<|oR 1 rfl<|rE 31<|iG rfl ?_;have b5:j+1≤1000001:=aG hjB (aC 1);refine rOk (x:=vN (j+1)) rfl rfl (okI (bU b5 rfl))<|oR 1 rfl<|rE 33 ?_;refine⟨j+1,λ i=>match i with|16=>29|i=>i,Weak.of_lists (λ i=>match i with|16=>29|i=>i) ⟨⟨rfl,rfl⟩,⟨rfl,rfl⟩,⟨rfl,rfl⟩,⟨rfl,rfl⟩,⟨rfl,rfl⟩,⟨rfl,rfl⟩,⟨rfl,rfl⟩,⟨rfl,rfl⟩,⟨rfl,rfl⟩,⟨rfl,rfl⟩,⟨rfl,rfl⟩,⟨(show AV.osl 29 0 ((cT c k s j).length+1) false=AV.osl 29 0 (cT c k s (j+1)).length false from by rw[←(show (cT c k s j)++([(⟨x.line,x.data⟩:Pt)])=cT c k s (j+1)from iY hx)];first|done|rfl|(congr 1<;>(first|exact omT|simp))),rfl⟩,trivial⟩ ⟨⟨rfl,rfl,rfl⟩,⟨rfl,(congrArg (λ z:List Pt=>some (Blk.arr (z.map ptL) 2)) (show (cT c k s j)++([(⟨x.line,x.data⟩:Pt)])=cT c k s (j+1)from iY hx)),rfl⟩,trivial⟩ rfl,by omega,by show s.length - (j+1)<s.length - j;omega⟩
   ·have h5p:=aE h5;refine eP<|iG rfl ?_;have b6:k+1≤1000001:=aG hkB (aC 1);refine rOk (x:=vN (k+1)) rfl rfl (okI (bU b6 rfl))<|oR 1 rfl<|rE 20 ?_;refine⟨(k+1,true),λ i=>match i with|8=>16|i=>i,Weak.of_lists (λ i=>match i with|8=>16|i=>i) ⟨⟨rfl,rfl⟩,⟨rfl,rfl⟩,⟨rfl,rfl⟩,⟨rfl,rfl⟩,⟨(show AV.osl 16 0 ((cT c k s j).length) false=AV.osl 16 0 (dX c (k+1)).length false from by rw[←(show cT c k s j=dX c (k+1)from mS hs (by omega))];first|done|rfl|(congr 1<;>(first|exact omT|simp))),rfl⟩,trivial⟩ ⟨⟨rfl,rfl,rfl⟩,⟨rfl,(congrArg (λ z:List Pt=>some (Blk.arr (z.map ptL) 2)) (show cT c k s j=dX c (k+1)from mS hs (by omega))),rfl⟩,trivial⟩ rfl,by omega,by show c.sets.length - (k+1)<c.sets.length - k;omega⟩
  ·have h4p:=aE h4;refine eP<|bK<|iG rfl<|oR 2 rfl<|rE 12<|cO ?_;have hT:dX c k=iD c:=sZ (by omega);rw[←hT];exact eQ rfl (by show 0+(dX c k).length≤((dX c k).map ptL).length;rw[aJ];omega) rfl (by show AV.sl 2 (List.take (dX c k).length (List.drop 0 ((dX c k).map ptL))) false=_;rw[cH,aM (by rw[aJ];exact aC _)])
theorem UQ(c:Ca)(hok:c.ok)(hc4:c.sets.length≤4)(hc2:∀ s∈c.sets,s.length≤2):bT C0 75 [.agg (caL c false)] (.sl 2 ((iD c).map ptL) false):=by
 by_cases hL:iD c=[]
 ·rw[hL];exact (Ly c hok hc4 hc2 hL).sub (Sub.clip 2 [] true)
 ·exact WO c hok hc4 hc2 hL
theorem AJ{c:Ca}(h4:c.sets.length≤4)(h2:∀ s∈c.sets,s.length≤2):(iD c).length≤8:=by rw[←sZ (aC _)];exact BO h4 h2
theorem AK{c:Ca}(h:∀ s∈c.sets,∀ x∈s,x.ok):∀ x∈iD c,x.ok:=by rw[←sZ (aC _)];exact Mq h _
theorem MW(st:List Pt)(c:Ca)(q:List Req)(m:ByteArray):Ko st c q m=mG m (bX q++iD c++st):=by
 unfold Ko Am fW mG;rw[List.foldl_append,List.foldl_append]
theorem aaD(st:List Pt)(c:Ca)(q:List Req)(m:ByteArray)(ck ck2:Bool)(hok:c.ok)(hc4:c.sets.length≤4)(hc2:∀ s∈c.sets,s.length≤2)(hm:m.size≤1000000)(hq:q.length≤900000)(ho:∀ x∈q,x.ok)(hst:(st).length≤1000)(hso:∀ x∈st,x.ok)(hW:bX q≠[]):bT C0 27 [.sl 2 (st.map ptL) ck2,.agg (caL c false),.sl 4 (q.map rqL) ck,.v (.string m)] (.v (.string (Ko st c q m))):=by
 refine dc1 (bT.intro c1Ok Tryz.func27 rfl rfl (by kernel_rfl) rfl ?_);have hLl:=AJ hc4 hc2;have hLo:=AK (c:=c) (λ s hs=>(hok.set s hs).2);have hWl:=aL (vC q) hq;have hWo:=Ab ho;refine bK<|iG rfl<|rAl 0 rfl rfl<|oR 1 rfl<|rE 2<|bK<|iG rfl<|oR 1 rfl<|fR _ rfl rfl rfl ((TF q ck hq ho hW).frame0 _ _ rfl) ?_;rintro _ _ ⟨rfl,rfl⟩;refine oR 1 rfl<|rE 5<|bK<|iG rfl<|oR 2 rfl<|rCl rfl (.inl rfl) (UQ c hok hc4 hc2)<|rFx (x:=.osl 8 0 ((bX q).length+(iD c).length) false) (h':=upd (upd _ 3 none) 8 (some (.arr (((bX q)++(iD c)).map ptL) 2))) rfl rfl (gT ptL (bX q) (iD c) omT omT) (⟨by exact omT,by exact omT,trivial⟩)<|oR 1 rfl<|rE 10<|bK<|iG rfl<|oR 2 rfl<|rFx (x:=.osl 12 0 ((bX q).length+(iD c).length+st.length) false) (h':=upd (upd _ 8 none) 12 (some (.arr ((((bX q)++(iD c))++st).map ptL) 2))) rfl rfl (gT ptL ((bX q)++(iD c)) st omT omT) (⟨by exact omT,by exact omT,trivial⟩)<|oR 1 rfl<|rE 14<|bK<|iG rfl<|oR 2 rfl<|rCl (x:=.v (.string (mG m (((bX q)++(iD c))++st)))) rfl (.inr ⟨rfl,⟨trivial,(by show 0+((bX q).length+(iD c).length+st.length)≤((((bX q)++(iD c))++st).map ptL).length;exact omT),trivial⟩⟩) ((show bT C0 _ [_,.sl 2 (List.take ((bX q).length+(iD c).length+st.length) (List.drop 0 ((((bX q)++(iD c))++st).map ptL))) false] _ from by rw[jQ ptL (((bX q)++(iD c))++st) omT];exact TE m (((bX q)++(iD c))++st) false hm (by first|omega|(simp only[aR];omega)) (λ x hx=>by simp only[al_List_mem_append]at hx;rcases hx with (hx|hx)|hx;exact hWo x hx;exact hLo x hx;exact hso x hx)))<|oR 1 rfl<|rE 18<|cO ?_;rw[MW];exact eQ rfl trivial rfl rfl
theorem aaE(st:List Pt)(c:Ca)(q:List Req)(m:ByteArray)(ck ck2:Bool)(hok:c.ok)(hc4:c.sets.length≤4)(hc2:∀ s∈c.sets,s.length≤2)(hm:m.size≤1000000)(hq:q.length≤900000)(ho:∀ x∈q,x.ok)(hst:(st).length≤1000)(hso:∀ x∈st,x.ok)(hW:bX q=[])(y:Pt)(t:List Pt)(hL:iD c=y::t):bT C0 27 [.sl 2 (st.map ptL) ck2,.agg (caL c false),.sl 4 (q.map rqL) ck,.v (.string m)] (.v (.string (Ko st c q m))):=by
 refine dc1 (bT.intro c1Ok Tryz.func27 rfl rfl (by kernel_rfl) rfl ?_);have hLl:=AJ hc4 hc2;have hLo:=AK (c:=c) (λ s hs=>(hok.set s hs).2);have hWl:=aL (vC q) hq;have hWo:=Ab ho;rw[hL]at hLl hLo;have hLl2:t.length+1≤8:=hLl;refine bK<|iG rfl<|rAl 0 rfl rfl<|oR 1 rfl<|rE 2<|bK<|iG rfl<|oR 1 rfl<|rCl rfl (.inl rfl) (Iu q ck hq ho hW)<|oR 1 rfl<|rE 5<|bK<|iG rfl<|oR 2 rfl<|rCl (x:=.sl 2 ((y::t).map ptL) false) rfl (.inl rfl) ((show bT C0 75 [.agg (caL c false)] (.sl 2 ((y::t).map ptL) false)from hL ▸ UQ c hok hc4 hc2))<|rFx (x:=.osl 8 0 ((y::t).length) false) (h':=upd _ 8 (some (.arr ((y::t).map ptL) 2))) rfl rfl (tR ptL ([]:List Pt) (y::t) omT) (⟨by exact omT,by exact omT,trivial,trivial⟩)<|oR 1 rfl<|rE 10<|bK<|iG rfl<|oR 2 rfl<|rFx (x:=.osl 12 0 ((y::t).length+st.length) false) (h':=upd (upd _ 8 none) 12 (some (.arr (((y::t)++st).map ptL) 2))) rfl rfl (gT ptL (y::t) st omT omT) (⟨by exact omT,by exact omT,trivial⟩)<|oR 1 rfl<|rE 14<|bK<|iG rfl<|oR 2 rfl<|rCl (x:=.v (.string (mG m ((y::t)++st)))) rfl (.inr ⟨rfl,⟨trivial,(by show 0+((y::t).length+st.length)≤(((y::t)++st).map ptL).length;exact omT),trivial⟩⟩) ((show bT C0 _ [_,.sl 2 (List.take ((y::t).length+st.length) (List.drop 0 (((y::t)++st).map ptL))) false] _ from by rw[jQ ptL ((y::t)++st) omT];exact TE m ((y::t)++st) false hm (by first|omega|(simp only[aR];omega)) (λ x hx=>by rcases al_List_mem_append.1 hx with hx|hx;exact hLo x hx;exact hso x hx)))<|oR 1 rfl<|rE 18<|cO ?_;rw[MW,hW,hL];exact eQ rfl trivial rfl rfl
theorem aaF(y:Pt)(t:List Pt)(c:Ca)(q:List Req)(m:ByteArray)(ck ck2:Bool)(hok:c.ok)(hc4:c.sets.length≤4)(hc2:∀ s∈c.sets,s.length≤2)(hm:m.size≤1000000)(hq:q.length≤900000)(ho:∀ x∈q,x.ok)(hst:(y::t).length≤1000)(hso:∀ x∈y::t,x.ok)(hW:bX q=[])(hL:iD c=[]):bT C0 27 [.sl 2 ((y::t).map ptL) ck2,.agg (caL c false),.sl 4 (q.map rqL) ck,.v (.string m)] (.v (.string (Ko (y::t) c q m))):=by
 refine dc1 (bT.intro c1Ok Tryz.func27 rfl rfl (by kernel_rfl) rfl ?_);have hLl:=AJ hc4 hc2;have hLo:=AK (c:=c) (λ s hs=>(hok.set s hs).2);have hWl:=aL (vC q) hq;have hWo:=Ab ho;have hst2:t.length+1≤1000:=hst;refine bK<|iG rfl<|rAl 0 rfl rfl<|oR 1 rfl<|rE 2<|bK<|iG rfl<|oR 1 rfl<|rCl rfl (.inl rfl) (Iu q ck hq ho hW)<|oR 1 rfl<|rE 5<|bK<|iG rfl<|oR 2 rfl<|rCl rfl (.inl rfl) (Ly c hok hc4 hc2 hL)<|cS (x:=.sl 2 ([]) true) rfl rfl rfl (⟨trivial,trivial⟩)<|oR 1 rfl<|rE 10<|bK<|iG rfl<|oR 2 rfl<|rFx (x:=.osl 12 0 ((y::t).length) false) (h':=upd _ 12 (some (.arr ((y::t).map ptL) 2))) rfl rfl (tR ptL ([]:List Pt) (y::t) omT) (⟨by exact omT,by exact omT,trivial,trivial⟩)<|oR 1 rfl<|rE 14<|bK<|iG rfl<|oR 2 rfl<|rCl (x:=.v (.string (mG m (y::t)))) rfl (.inr ⟨rfl,⟨trivial,(by show 0+((y::t).length)≤((y::t).map ptL).length;exact omT),trivial⟩⟩) ((show bT C0 _ [_,.sl 2 (List.take ((y::t).length) (List.drop 0 ((y::t).map ptL))) false] _ from by rw[jQ ptL (y::t) omT];exact TE m (y::t) false hm (by first|omega|(simp only[aR];omega)) (hso)))<|oR 1 rfl<|rE 18<|cO ?_;rw[MW,hW,hL];exact eQ rfl trivial rfl rfl
theorem aaG (c:Ca)(q:List Req)(m:ByteArray)(ck ck2:Bool)(hok:c.ok)(hc4:c.sets.length≤4)(hc2:∀ s∈c.sets,s.length≤2)(hm:m.size≤1000000)(hq:q.length≤900000)(ho:∀ x∈q,x.ok)(hst:(([]:List Pt)).length≤1000)(hso:∀ x∈([]:List Pt),x.ok)(hW:bX q=[])(hL:iD c=[]):bT C0 27 [.sl 2 (([]:List Pt).map ptL) ck2,.agg (caL c false),.sl 4 (q.map rqL) ck,.v (.string m)] (.v (.string (Ko ([]:List Pt) c q m))):=by
 refine dc1 (bT.intro c1Ok Tryz.func27 rfl rfl (by kernel_rfl) rfl ?_);refine bK<|iG rfl<|rAl 0 rfl rfl<|oR 1 rfl<|rE 2<|bK<|iG rfl<|oR 1 rfl<|rCl rfl (.inl rfl) (Iu q ck hq ho hW)<|oR 1 rfl<|rE 5<|bK<|iG rfl<|oR 2 rfl<|rCl rfl (.inl rfl) (Ly c hok hc4 hc2 hL)<|cS (x:=.sl 2 ([]) true) rfl rfl rfl (⟨trivial,trivial⟩)<|oR 1 rfl<|rE 10<|bK<|iG rfl<|oR 2 rfl<|cS (x:=.sl 2 ([]) true) rfl rfl (rfl) (⟨trivial,trivial⟩)<|oR 1 rfl<|rE 14<|bK<|iG rfl<|oR 2 rfl<|rCl rfl (.inl rfl) (TE m [] true hm (aD _) (λ x hx=>absurd hx List.not_mem_nil))<|oR 1 rfl<|rE 18<|cO ?_;rw[MW,hW,hL];exact eQ rfl trivial rfl rfl
theorem abJ(st:List Pt)(c:Ca)(q:List Req)(m:ByteArray)(ck ck2:Bool)(hok:c.ok)(hc4:c.sets.length≤4)(hc2:∀ s∈c.sets,s.length≤2)(hm:m.size≤1000000)(hq:q.length≤900000)(ho:∀ x∈q,x.ok)(hst:st.length≤1000)(hso:∀ x∈st,x.ok):bT C0 27 [.sl 2 (st.map ptL) ck2,.agg (caL c false),.sl 4 (q.map rqL) ck,.v (.string m)] (.v (.string (Ko st c q m))):=by
 by_cases hW:bX q=[]
 ·cases hL:iD c with
  |cons y t=>exact aaE st c q m ck ck2 hok hc4 hc2 hm hq ho hst hso hW y t hL
  |nil=>
   cases st with
   |cons y t=>exact aaF y t c q m ck ck2 hok hc4 hc2 hm hq ho hst hso hW hL
   |nil=>exact aaG c q m ck ck2 hok hc4 hc2 hm hq ho hst hso hW hL
 ·exact aaD st c q m ck ck2 hok hc4 hc2 hm hq ho hst hso hW
theorem Zd{a b:Int}(h:a=b):(a != b)=false:=by rw[h];simp
theorem aaS{a b:Nat}(h:a=b):((a:Int) != (b:Int))=false:=Zd (by rw[h])
theorem YJ{a b:ByteArray}(h:a=b):(!(a.toList==b.toList))=false:=by rw[h];simp
theorem UP(c:Co)(n:Nat)(hm:c.okM n):bT C0 27 [.sl 2 (c.stores.map ptL) false,.agg (caL c.data false),.sl 4 (c.bus.map rqL) false,.v (.string c.mem)] (.v (.string (tT c))):=
 abJ c.stores c.data c.bus c.mem false false hm.ok.data hm.d4 hm.d2 (by have:=hm.mem;omega) (by have:=hm.bus;omega) hm.ok.buso hm.sto hm.ok.stoo
theorem YK(cf:Cf)(prog:List Nat)(m:ByteArray)(k:Nat)(hc:cf.ok)(hp:∀ x∈prog,x≤4294967295)(hl:prog.length≤1000)(hk:k≤2000)(X:Co)(hX:X=qP cf prog m):bT C0 28 [.agg (cfL cf false false),.sl 1 (prog.map iI) false,.v (.string m),vN k] (.agg (coL (gA X k))):=by
 subst hX;have h:=aaK cf prog m (k:Int) hc hp hl;rw[show Fs (k:Int)=k by unfold Fs;omega]at h;exact h
structure StopsAt(c d:Co):Prop where
 s:SameH c d
 rob:d.rob=[]
 fet:d.fetched=[]
 all:tT d=tT c
theorem GA{X:Co}(hG:∀ k,k≤3000→GdRun X k)(hc:X.mc)(hd:HdCo X){j:Nat}(hj:j<3000)(h:(gA X j).halt≠0):StopsAt (gA X j) (gI (gA X j)):=by
 have g:=hG j omT;have hm:=qH g.ok omT g.rt;have z:=(UU hd j).st h;rw[show gI (gA X j)=EB (gA X j)from if_pos g.rt];have s:=Rb h;exact⟨s,s.rob z.1,s.fet.trans z.2,TO hm (UT hG hc j omT) h⟩
theorem JY{X:Co}(hG:∀ k,k≤3000→GdRun X k)(hc:X.mc)(hd:HdCo X){N:Nat}(h:(gA X N).halt≠0):∀ k,N+k≤3000→(gA X (N+k)).halt≠0∧tT (gA X (N+k))=tT (gA X N)
 |0,_=>⟨h,rfl⟩
 |k+1,hk=>by
  obtain⟨h1,h2⟩:=JY hG hc hd h k omT;have s:=GA hG hc hd (j:=N+k) omT h1;exact⟨λ z=>h1 (s.s.halt.symm.trans z),s.all.trans h2⟩
theorem NZ(cf:Cf)(prog:List Nat)(m:ByteArray)(n b:Int)(hc:cf.ok)(hp:∀ x∈prog,x≤4294967295)(hl:prog.length≤9223372036854775807)(hm:m.size≤9223372036854775807):bT C0 10 [.agg (cfL cf false false),.sl 1 (prog.map iI) false,.v (.string m),vI n,vI b] (vB true):=by
 refine dc1 (bT.intro c1Ok Tryz.func10 rfl rfl (by kernel_rfl) rfl ?_);obtain⟨N,hNe⟩:∃ N,N=upTo n 300:=⟨_,rfl⟩;obtain⟨M,hMe⟩:∃ M,M=upTo b 100:=⟨_,rfl⟩;have hNi:(if (300:Int)<max n 0 then (300:Int)else max n 0)=(N:Int):=hNe ▸ Rz n 300;have hMi:(if (100:Int)<max b 0 then (100:Int)else max b 0)=(M:Int):=hMe ▸ Rz b 100;have hN:N≤300:=hNe ▸ Ry _ _;have hM:M≤100:=hMe ▸ Ry _ _;have hl2:(Ol prog).length≤1000:=by unfold Ol;rw[aN];omega
 have hp2:=yL (P:=λ x=>x≤4294967295) (n:=min prog.length 64) hp;obtain⟨X,hXe⟩:∃ X,X=qP cf (Ol prog) (Uf m):=⟨_,rfl⟩;have hX:X.ok 0:=hXe ▸ Ht cf _ _ hc hp2;have hnb:4100≤890000:=by decide
 have hcp:0≤X.conf.rob∧0≤X.conf.queue:=by rw[hXe];exact Rx cf
 have hr0:fS X=true:=hXe ▸ Rf _ _ _ (hXe ▸ hX);have hG:=UV (YQ cf (Ol prog) (Uf m) hc hp2 X hXe hr0) hcp;have hmc:X.mc:=by subst hXe;exact YP _ _ _ (qH hX omT hr0)
 have hHd:HdCo X:=⟨λ z=>absurd (by rw[hXe];rfl) z⟩;have hNm:(gA X N).okM (0+10 * N):=qH (BH hX N omT) omT (hG N omT).rt;refine cSR<|rAl 0 rfl rfl<|oR 1 rfl<|rE 2<|cSR<|oR 2 rfl<|rCi rfl (YT prog m hl hm)<|oR 5 rfl<|rE 10<|cSR<|oR 4 rfl<|rW (vI (max n 0)) rfl (okI (UZ n 0))<|rW (vN N) rfl (okI hNi)<|rCl (x:=.agg (coL (gA X N))) rfl (.inl rfl) ((show bT C0 28 [.agg (cfL cf false false),.sl 1 ((Ol prog).map iI) false,.v (.string (Uf m)),vN N] (.agg (coL (gA X N)))from YK cf (Ol prog) (Uf m) N hc hp2 hl2 omT X hXe))<|rAl 17 rfl rfl<|rSt rfl<|rE 19<|bK<|cSR<|oR 2 rfl<|rV (vB (((gA X N).halt)==0)) rfl<|rE 22<|aV rfl (λ h1=>?_) (λ h1=>?_)
 ·have h1p:=mC h1;refine cSR<|rCi rfl (UY)<|oR 1 rfl<|rE 24<|cO ?_;exact fT rfl rfl
 ·have h1p:=mD h1;have hh:(gA X N).halt≠0:=λ z=>by have q:=h1;rw[z]at q;simp at q
  refine bB<|cSR<|oR 8 rfl<|rCi rfl (UP (gA X N) (0+10 * N) hNm)<|oR 1 rfl<|rE 32<|bK<|cSR<|oR 1 rfl<|rW (vI (max b 0)) rfl (okI (UZ b 0))<|rW (vN M) rfl (okI hMi)<|oR 1 rfl<|rE 36<|bL<|oE (κ:=Nat) (λ k=>⟨slotsF [(11,.ptr 17 0),(29,vB (((gA X N).halt)==0)),(12,.v (.string (tT (gA X N)))),(42,vN M),(43,vN k)],heapF [(0,.box [vI cf.mode,vI cf.width,vI cf.rob,vI cf.queue,vI cf.stores,vI cf.slots,vI cf.sets,vI cf.ways,.sl 1 (cf.lat.map jL) false,vB cf.tables,.sl 1 (cf.tape.map iI) false]),(17,.box (coL (gA X (N+k))))],36⟩) (λ k=>k≤M) (λ k=>M - k) 0 (λ s=>s) (Weak.of_lists (λ s=>s) wT wH rfl) (aD _) ?_;intro k hk;have hkn:k≤M:=hk;have hkB:k≤100:=by omega
  have hA:=JY hG hmc hHd hh k omT;have hS:=GA hG hmc hHd (j:=N+k) omT hA.1;have hso:(gI (gA X (N+k))).ok (0+10 * (N+k)+10):=Jj (BH hX (N+k) omT) omT;have hsm:(gI (gA X (N+k))).okM (0+10 * (N+k)+10):=qH hso omT (hG (N+k+1) omT).rt;have hnb:0+10 * (N+k)+10≤890000:=by omega
  refine cSR<|rW (vB (decide (k<M))) rfl (okB (ltN _ _))<|rE 37<|bK<|aV rfl (λ h2=>?_) (λ h2=>?_)
  ·have h2p:=of_decide_eq_true h2;refine bB<|bK<|bL<|cSR<|oR 1 rfl<|rCi rfl (XK (gA X (N+k)) (0+10 * (N+k)) (BH hX (N+k) omT) omT)<|rAl 39 rfl rfl<|rSt rfl<|rE 41<|bK<|cSR<|oR 2 rfl<|rW (vN (((gI (gA X (N+k))).retired).length)) rfl (cG spL ((gI (gA X (N+k))).retired))<|oR 2 rfl<|rW (vN (((gA X (N+k)).retired).length)) rfl (cG spL ((gA X (N+k)).retired))<|rW (vB false) rfl (okB (aaS (congrArg List.length hS.s.ret)))<|oR 1 rfl<|gN rfl<|gS rfl id<|gN rfl<|gS rfl id<|gBS (x:=vB false) rfl hsT (okB (by rw[hS.s.r];simp))<|cS rfl rfl rfl (by simp)<|oR 1 rfl<|gN rfl<|gS rfl id<|gN rfl<|gS rfl id<|gBS (x:=vB false) rfl hsT (okB (Zd hS.s.halt))<|cS rfl rfl rfl (by simp)<|oR 1 rfl<|gN rfl<|gS rfl id<|gBS (x:=vN (((gI (gA X (N+k))).rob).length)) rfl id (cG enL ((gI (gA X (N+k))).rob))<|gBS (x:=vB false) rfl id (okB (Zd (by rw[hS.rob];rfl)))<|cS rfl rfl rfl (by simp)<|oR 1 rfl<|gN rfl<|gS rfl id<|gBS (x:=vN (((gI (gA X (N+k))).fetched).length)) rfl id (cG ftL ((gI (gA X (N+k))).fetched))<|gBS (x:=vB false) rfl id (okB (Zd (by rw[hS.fet];rfl)))<|cS rfl rfl rfl (by simp)<|oR 1 rfl<|gN rfl<|gS rfl id<|gN rfl<|gS rfl id<|gBS (x:=vB false) rfl hsT (okB (aaS hS.s.fetch))<|cS rfl rfl rfl (by simp)<|oR 1 rfl<|gN rfl<|gS rfl id<|gN rfl<|gS rfl id<|gN rfl<|gS rfl id<|gN rfl<|gS rfl id<|lX (x:=.v (.string (tT (gI (gA X (N+k)))))) (g:= !false) rfl rfl rfl rfl hsT rfl rfl rfl (.inl rfl) rfl (λ hg=>UP (gI (gA X (N+k))) (0+10 * (N+k)+10) hsm)<|gN rfl<|gBS (x:=vB false) rfl hsT (okB (YJ (hS.all.trans hA.2)))<|cS rfl rfl rfl (by simp)<|rE 94<|aV rfl (λ h=>by cases h) (λ _=>?_);refine bB<|cRg<|oR 1 rfl<|rSt rfl<|rE 96<|cRg ?_;have b1:k+1≤101:=aG hkB (aC 1);refine rW (vN (k+1)) rfl (okI (bU b1 rfl))<|oR 1 rfl<|rE 98 ?_;refine⟨k+1,λ s=>s,Weak.of_lists _ wT wH rfl,by omega,by show M - (k+1)<M - k;omega⟩
  ·have h2p:=aE h2;refine eP<|cSR<|rCi rfl (UY)<|oR 1 rfl<|rE 39<|cO ?_;exact fT rfl rfl
end Go.Proofs.YtlhofpglndhfaaaGreatDoor
