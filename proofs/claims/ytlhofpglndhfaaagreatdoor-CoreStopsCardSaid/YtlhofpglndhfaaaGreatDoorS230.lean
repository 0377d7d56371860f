/- Joined texts. -/
import Derived.Test.YtlhofpglndhfaaaGreatDoorS201
import Derived.Test.YtlhofpglndhfaaaGreatDoorS228
import Derived.Test.YtlhofpglndhfaaaGreatDoorS229
set_option linter.unusedVariables false
set_option linter.unusedSimpArgs false
namespace Go.Proofs.YtlhofpglndhfaaaGreatDoor
open Go.RowKit
noncomputable def C1:Ctx:={C0 with lt:=true}
theorem c1Ok:CtxOk C1:=⟨c0Ok.1,c0Ok.2,c0Ok.3⟩
theorem dc1{f:FuncId}{args:List AV}{r:AV}(h:bT C1 f args r):bT C0 f args r:=h
theorem w64(x:Int):IntKind.wrap .i64 x=wrap64 x:=by rw[IntKind.wrap_i64];simp only[wrap64]
theorem cOr(c y:Bool):dE c true y=(c||y):=by cases c<;>rfl
theorem qA(c x:Bool):dE c x false=(c&&x):=by cases c<;>rfl
theorem sP{p q:Prop}(h:p)(t:p→q:=by intro h;(try simp only[w64,cOr,qA,dH,aH,dW,kC,pS,pV,ne_eq,aU,iC,aS,lN,eO,Bool.not_eq_false,Bool.not_eq_eq_eq_not,lQ,Bool.not_false,Decidable.not_not]at h);exact h):q:=t h
abbrev zCo:List AV:=[vI 0,vI 0,vI 0,vI 0,vI 0,vI 0,vI 0,vI 0,.sl 0 ([]) true,vB false,.sl 0 ([]) true,.sl 0 ([]) true,vI 0,zU,zU,zU,zU,zU,zU,zU,zU,zU,zU,zU,zU,zU,zU,zU,zU,zU,zU,zU,zU,zU,zU,zU,zU,zU,zU,zU,zU,zU,zU,zU,zU,zU,vB false,.sl 0 ([]) true,.sl 0 ([]) true,vI 0,.sl 0 ([]) true,vI 0,.sl 0 ([]) true,vI 0,.sl 0 ([]) true,.sl 0 ([]) true,vI 0,vI 0,.v (.string (⟨#[]⟩:ByteArray)),.sl 0 ([]) true,zU,.sl 0 ([]) true,vI 0,.sl 0 ([]) true]
theorem mC{α:Type}[BEq α][LawfulBEq α]{a b:α}(h:(a==b)=true):a=b:=eq_of_beq h
theorem mD{α:Type}[BEq α][LawfulBEq α]{a b:α}(h:(a==b)=false): ¬ a=b:=λ e=>by rw[e,beq_self_eq_true]at h;cases h
theorem wN{α:Type}[BEq α][LawfulBEq α]{a b:α}(h:(a != b)=true): ¬ a=b:=λ e=>by rw[e]at h;simp at h
theorem wO{α:Type}[BEq α][LawfulBEq α]{a b:α}(h:(a != b)=false):a=b:=by simpa using h
theorem vD{α:Type}(f:α→List AV)(l:List α){n:Nat}(h:l.length=n):Res.ok (.v (.int .i64 ((l.map f).length:Int)))=.ok (.v (.int .i64 (n:Int))):=by rw[aJ,h]
theorem IB{α:Type}{l:List α}{k:Nat}{x:α}(h:l[k]?=some x):l[0+k]?=some x:=by rwa [bR]
theorem Qc{p:Prop}{x:AV}{h:AH}{b rs:Nat}{r r':List (List AV)}(e:r=r'):Res.fx p x (upd h b (some (.arr r rs)))=.fx p x (upd h b (some (.arr r' rs))):=by rw[e]
theorem vE{α:Type}{f:α→List AV}{l:List α}{k:Nat}{x:α}{h:AH}{b rs:Nat}:some (upd h b (some (.arr ((l.map f).set (0+k) (f x)) rs)))=some (upd h b (some (.arr ((l.set k x).map f) rs))):=by rw[bR,List.map_set]
theorem xJ{p:Prop}{rs:Nat}{r r':List (List AV)}{c:Bool}(e:r=r'):Res.need p (.sl rs r c)=.need p (.sl rs r' c):=by rw[e]
theorem Lc{p:Prop}{s lo lo' n n':Nat}{c:Bool}(e:lo=lo')(e':n=n'):Res.need p (.osl s lo n c)=.need p (.osl s lo' n' c):=by rw[e,e']
section
variable {α:Type}(f:α→List AV)
section
variable (l:List α)
theorem vF(H:Nat):List.drop 0 (List.take H (l.map f))=(l.take H).map f:=by rw[cH,fU]
theorem Jx(L:Nat):List.drop L (List.take (l.map f).length (l.map f))=(l.drop L).map f:=by rw[dJ,lU]
theorem Ld{p:Prop}{H:AH}{s rs m:Nat}{c:List (List AV)}(hl:c.length=m):Res.fx p (.osl s 0 c.length false) (upd H s (some (.arr c rs)))=.fx p (.osl s 0 m false) (upd H s (some (.arr c rs))):=by rw[hl]
theorem gT{p:Prop}{H:AH}{s rs n m:Nat}(B:List α)(h1:l.length=n)(h2:l.length+B.length=m):
  Res.fx p (.osl s 0 ((List.take n (List.drop 0 (l.map f))).length+(B.map f).length) false) (upd H s (some (.arr (List.take n (List.drop 0 (l.map f))++B.map f) rs)))=.fx p (.osl s 0 m false) (upd H s (some (.arr ((l++B).map f) rs))):=by
 rw[cH,aM (by rw[aJ,h1];exact aC _),aJ,aJ,h2,eA]
theorem tR{p:Prop}{H:AH}{s rs m:Nat}(B:List α)(h2:l.length+B.length=m):
  Res.fx p (.osl s 0 ((l.map f).length+(B.map f).length) false) (upd H s (some (.arr (l.map f++B.map f) rs)))=.fx p (.osl s 0 m false) (upd H s (some (.arr ((l++B).map f) rs))):=by
 rw[aJ,aJ,h2,eA]
theorem SU{p:Prop}{H:AH}{s rs lo n m:Nat}(B:List α)(h2:((l.drop lo).take n).length+B.length=m):
  Res.fx p (.osl s 0 ((List.take n (List.drop lo (l.map f))).length+(B.map f).length) false) (upd H s (some (.arr (List.take n (List.drop lo (l.map f))++B.map f) rs)))=.fx p (.osl s 0 m false) (upd H s (some (.arr ((((l.drop lo).take n)++B).map f) rs))):=by
 rw[←h2,eA,fU,lU,aJ];simp only[aN,bD,aJ]
end
theorem DD{n:Nat}(X:List (List AV))(B:List α)(hB:B.length=n)(hX:X.length=n):X.take 0++(B.map f).take (min (B.map f).length n)++X.drop (0+min (B.map f).length n)=B.map f:=by
 rw[aJ,hB,Nat.min_self,pU,iA,eK (by omega),dZ,aM (by rw[aJ];omega)]
section
variable (l:List α)
theorem BS{lo n:Nat}{M:List α}(h:(l.drop lo).take n=M):List.take n (List.drop lo (l.map f))=M.map f:=by rw[←h,fU,lU]
theorem jQ{n:Nat}(h:l.length≤n):List.take n (List.drop 0 (l.map f))=l.map f:=by rw[cH,aM (by rw[aJ];exact h)]
end
end
theorem HY{α:Type}{f:α→List AV}{l:List α}{b rs lo n:Nat}{c:Bool}(h:lo+n≤l.length):LeZ (some (b,rs,l.map f)) (.osl b lo n c) (.sl rs (((l.drop lo).take n).map f) false):=by
 have:=LeZ.frz (fz:=some (b,rs,l.map f)) b rs lo n (l.map f) c false rfl (by rw[aJ];exact h) (λ h=>by cases h);rw[fU,lU];exact this
theorem mT{α:Type}{f:α→List AV}{l:List α}{b rs n:Nat}{c:Bool}(h:l.length=n):LeZ (some (b,rs,l.map f)) (.osl b 0 n c) (.sl rs (l.map f) false):=by
 have:=HY (f:=f) (b:=b) (rs:=rs) (c:=c) (l:=l) (lo:=0) (n:=n) (by omega)
 rwa [cH,aM (by omega)]at this
theorem rfT{p:Prop}(h:p:=by repeat (first|exact trivial|refine⟨.refl _,?_⟩|refine⟨HY (by exact omT),?_⟩|refine⟨mT (by exact omT),?_⟩)):p:=h
theorem yL{α:Type}{P:α→Prop}{l:List α}{n:Nat}(h:∀ x∈l,P x):∀ x∈l.take n,P x:=λ x hx=>h x (cK hx)
theorem HZ{α:Type}{P:α→Prop}{l:List α}{n:Nat}(h:∀ x∈l,P x):∀ x∈l.drop n,P x:=λ x hx=>h x (eW hx)
theorem rP{α:Type}{P:α→Prop}{l m:List α}(h:∀ x∈l,P x)(h':∀ x∈m,P x):∀ x∈l++m,P x:=λ x hx=>(al_List_mem_append.1 hx).elim (h x) (h' x)
theorem rQ{α:Type}{P:α→Prop}{y:α}(h:P y):∀ x∈[y],P x:=λ x hx=>by rw[tW]at hx;rw[hx];exact h
theorem mem_set{α:Type}{P:α→Prop}{l:List α}{k:Nat}{y:α}(h:∀ x∈l,P x)(h':P y):∀ x∈l.set k y,P x:=λ x hx=>(List.mem_or_eq_of_mem_set hx).elim (h x) λ e=>e ▸ h'
theorem pL.frame0{P:Program}{G:Nat→Option (List AV)}{f:FuncId}{args:List AV}{rows:List (List AV)}{rs lo n:Nat}{cl:Bool}(H:pL P G f args (heapF []) 0 (λ x h'=>x=.osl 0 lo n cl∧h'=heapF [(0,.arr rows rs)]))(K:AH)(s2:Nat)(ha:gE args=true):
  pL P G f args K s2 (λ x h'=>x=.osl s2 lo n cl∧h'=upd K s2 (some (.arr rows rs))):=by
 have:=H.frame (λ x=>x) K s2 rfl (λ x hx=>absurd rfl hx) (λ x blk hx=>by cases hx) (λ x y hx=>absurd hx (dT _)) (nU 0 args ha) (λ x h'=>x=.osl s2 lo n cl∧h'=upd K s2 (some (.arr rows rs))) λ r h' hP=>?_
 ·rwa [qQ _ args ha]at this
 ·obtain⟨rfl,rfl⟩:=hP;refine⟨_,⟨by simp[uV,vJ],rfl⟩,λ y blk hy=>?_⟩;by_cases he:y=s2
  ·subst he;rw[cZ]at hy;injection hy with hy;exact .inl ⟨0,.arr rows rs,rfl,(vJ _ _ _).symm,by subst hy;rfl⟩
  ·rw[cA _ _ he]at hy;exact .inr ⟨hy,λ x hx=>absurd hx (dT _)⟩
theorem pL.frameO{P:Program}{G:Nat→Option (List AV)}{f:FuncId}{args:List AV}{rows rows2:List (List AV)}{rs rs2 n:Nat}(H:pL P G f args (heapF [(0,.arr rows rs)]) 1 (λ x h'=>x=.osl 1 0 n false∧h'=heapF [(0,.arr rows rs),(1,.arr rows2 rs2)]))(b:Nat)(K:AH)(s2:Nat)(hb:Nat.blt b s2=true)(hK:K b=some (.arr rows rs))(ha:pX 1 args=true):
  pL P G f (Cl (λ _=>b) args) K s2 (λ x h'=>x=.osl s2 0 n false∧h'=upd K s2 (some (.arr rows2 rs2))):=by
 have hb:=aP hb;refine H.frame (λ _=>b) K s2 rfl (λ x hx=>?_) (λ x blk0 hx=>?_) (λ x y hx hy _=>by omega) ha _ λ r' h' hP=>?_
 ·cases x with
  |zero=>omega
  |succ x=>exact absurd rfl hx
 ·cases x with
  |zero=>injection hx with hx;subst hx;exact⟨hb,rfl,hK⟩
  |succ x=>cases hx
 ·obtain⟨rfl,rfl⟩:=hP;refine⟨_,⟨by simp[uV,vJ],rfl⟩,λ y blk0 hy=>?_⟩;by_cases he:y=s2
  ·subst he;rw[cZ]at hy;injection hy with hy;exact .inl ⟨1,.arr rows2 rs2,rfl,(vJ _ _ _).symm,by subst hy;rfl⟩
  ·rw[cA _ _ he]at hy;by_cases hyb:y=b
   ·subst hyb;rw[hK]at hy;injection hy with hy;exact .inl ⟨0,.arr rows rs,rfl,rfl,by subst hy;rfl⟩
   ·exact .inr ⟨hy,λ x hx e=>hyb e.symm⟩
abbrev zE(b:Bool):List AV:=[.v (.bool b)]
structure Ent.ok(e:Ent):Prop where
 pc:e.pc≤4294967295
 imm:e.i.imm≤4294967295
 guess:e.guess≤4294967295
 value:e.value≤4294967295
 next:e.next≤4294967295
 addr:e.addr≤4294967295
structure Req.ok(x:Req):Prop where
 line:x.line≤4294967295
structure Pt.ok(x:Pt):Prop where
 addr:x.addr≤4294967295
structure Ft.ok(x:Ft):Prop where
 pc:x.pc≤4294967295
 guess:x.guess≤4294967295
structure Gs.ok(x:Gs):Prop where
 pc:x.pc≤4294967295
 next:x.next≤4294967295
structure Sp.ok(x:Sp):Prop where
 pc:x.pc≤4294967295
 next:x.next≤4294967295
 value:x.value≤4294967295
 addr:x.addr≤4294967295
theorem CZ{a b B:Nat}(h:b≤a)(h2:a≤B)(hB:Nat.ble B 9223372036854775807=true):IntKind.wrap .i64 ((a:Int) - (b:Int))=((a - b:Nat):Int):=by
 have:=aP hB;rw[wrap_i64 (by omega) (by omega)];omega
theorem Yg(a b:Nat):Int.tmod (a:Int) (b:Int)=((a % b:Nat):Int):=pW a b |>.symm
theorem BT{a:Nat}(h:a≤4294967295):a<4294967296:=kG h
theorem oT{e e':Ent}(h:e=e'):AV.agg (enL e)=.agg (enL e'):=by rw[h]
theorem Dn{e e':Sp}(h:e=e'):AV.agg (spL e)=.agg (spL e'):=by rw[h]
theorem dM{b b':Bool}(h:b=b'):AV.v (.bool b)=.v (.bool b'):=by rw[h]
theorem Mt{b b':Int}(h:b=b'):AV.v (.int .i64 b)=.v (.int .i64 b'):=by rw[h]
theorem Gq{b b':Nat}(h:b=b'):AV.v (.int .u32 (b:Int))=.v (.int .u32 (b':Int)):=by rw[h]
abbrev Jy(r:Nat→Nat):List AV:=[.v (.int .u32 (r 0:Int)),.v (.int .u32 (r 1:Int)),.v (.int .u32 (r 2:Int)),.v (.int .u32 (r 3:Int)),.v (.int .u32 (r 4:Int)),.v (.int .u32 (r 5:Int)),.v (.int .u32 (r 6:Int)),.v (.int .u32 (r 7:Int)),.v (.int .u32 (r 8:Int)),.v (.int .u32 (r 9:Int)),.v (.int .u32 (r 10:Int)),.v (.int .u32 (r 11:Int)),.v (.int .u32 (r 12:Int)),.v (.int .u32 (r 13:Int)),.v (.int .u32 (r 14:Int)),.v (.int .u32 (r 15:Int)),.v (.int .u32 (r 16:Int)),.v (.int .u32 (r 17:Int)),.v (.int .u32 (r 18:Int)),.v (.int .u32 (r 19:Int)),.v (.int .u32 (r 20:Int)),.v (.int .u32 (r 21:Int)),.v (.int .u32 (r 22:Int)),.v (.int .u32 (r 23:Int)),.v (.int .u32 (r 24:Int)),.v (.int .u32 (r 25:Int)),.v (.int .u32 (r 26:Int)),.v (.int .u32 (r 27:Int)),.v (.int .u32 (r 28:Int)),.v (.int .u32 (r 29:Int)),.v (.int .u32 (r 30:Int)),.v (.int .u32 (r 31:Int))]
theorem ldL(r:Nat→Nat)(n:Nat)(hn:n<32):okO (LU (Jy r) (0+n * 1))=.ok (.v (.int .u32 (r n:Int))):=by
 have:∀ (n:_root_.Fin 32),okO (LU (Jy r) (0+n.1 * 1))=.ok (.v (.int .u32 (r n.1:Int))):=by
  intro n
  match n with
  |⟨0,_⟩=>rfl
  |⟨1,_⟩=>rfl
  |⟨2,_⟩=>rfl
  |⟨3,_⟩=>rfl
  |⟨4,_⟩=>rfl
  |⟨5,_⟩=>rfl
  |⟨6,_⟩=>rfl
  |⟨7,_⟩=>rfl
  |⟨8,_⟩=>rfl
  |⟨9,_⟩=>rfl
  |⟨10,_⟩=>rfl
  |⟨11,_⟩=>rfl
  |⟨12,_⟩=>rfl
  |⟨13,_⟩=>rfl
  |⟨14,_⟩=>rfl
  |⟨15,_⟩=>rfl
  |⟨16,_⟩=>rfl
  |⟨17,_⟩=>rfl
  |⟨18,_⟩=>rfl
  |⟨19,_⟩=>rfl
  |⟨20,_⟩=>rfl
  |⟨21,_⟩=>rfl
  |⟨22,_⟩=>rfl
  |⟨23,_⟩=>rfl
  |⟨24,_⟩=>rfl
  |⟨25,_⟩=>rfl
  |⟨26,_⟩=>rfl
  |⟨27,_⟩=>rfl
  |⟨28,_⟩=>rfl
  |⟨29,_⟩=>rfl
  |⟨30,_⟩=>rfl
  |⟨31,_⟩=>rfl
  |⟨k+32,h⟩=>exact absurd h (by omega)
 exact this ⟨n,hn⟩
theorem ZB(r:Nat→Nat)(n v:Nat)(hn:n<32):zM (0+n * 1) [.v (.int .u32 (v:Int))] (Jy r)=Jy (Wh r n v):=by
 have:∀ (n:_root_.Fin 32),zM (0+n.1 * 1) [.v (.int .u32 (v:Int))] (Jy r)=Jy (Wh r n.1 v):=by
  intro n
  match n with
  |⟨0,_⟩=>rfl
  |⟨1,_⟩=>rfl
  |⟨2,_⟩=>rfl
  |⟨3,_⟩=>rfl
  |⟨4,_⟩=>rfl
  |⟨5,_⟩=>rfl
  |⟨6,_⟩=>rfl
  |⟨7,_⟩=>rfl
  |⟨8,_⟩=>rfl
  |⟨9,_⟩=>rfl
  |⟨10,_⟩=>rfl
  |⟨11,_⟩=>rfl
  |⟨12,_⟩=>rfl
  |⟨13,_⟩=>rfl
  |⟨14,_⟩=>rfl
  |⟨15,_⟩=>rfl
  |⟨16,_⟩=>rfl
  |⟨17,_⟩=>rfl
  |⟨18,_⟩=>rfl
  |⟨19,_⟩=>rfl
  |⟨20,_⟩=>rfl
  |⟨21,_⟩=>rfl
  |⟨22,_⟩=>rfl
  |⟨23,_⟩=>rfl
  |⟨24,_⟩=>rfl
  |⟨25,_⟩=>rfl
  |⟨26,_⟩=>rfl
  |⟨27,_⟩=>rfl
  |⟨28,_⟩=>rfl
  |⟨29,_⟩=>rfl
  |⟨30,_⟩=>rfl
  |⟨31,_⟩=>rfl
  |⟨k+32,h⟩=>exact absurd h (by omega)
 exact this ⟨n,hn⟩
theorem aa2{ev:Operand→AV}{h:AH}{s b n v:Nat}{a x:Operand}{r:Nat→Nat}(ha:ev a=.ptr b (0+n * 1))(hb:h b=some (.box (Jy r)))(hx:ev x=.v (.int .u32 (v:Int)))(hn:n<32):
  opA C0 ev h s (.store 26 a x)=.fx True .any (upd h b (some (.box (Jy (Wh r n v))))):=by
 have hty:C0.ty 26=some aaO:=rfl;have hc:(0+n * 1+([.v (.int .u32 (v:Int))]:List AV).length).ble (Jy r).length=true:=jY (by simp;omega);simp only[opA,hty,hx,kO,ha,hb];rw[show ([AV.v (Value.int IntKind.u32 (v:Int))].length.beq 1)=true from rfl];simp only;rw[hc];simp only;rw[ZB _ _ _ hn]
set_option maxRecDepth 100000
set_option maxHeartbeats 4000000
theorem pP{α:Type}{l:List α}{k:Nat}(h:k<l.length):(eR l k).length=l.length:=by
 unfold eR;rw[aA h];simp;omega
theorem BQ{α:Type}{l:List α}{k:Nat}{x:α}(h:l[k]?=some x):eR l k=[x]++l.take k++l.drop (k+1):=by unfold eR;rw[h]
theorem pQ{α:Type}{P:α→Prop}{l:List α}{k:Nat}(h:∀ x∈l,P x):∀ x∈eR l k,P x:=by
 intro x hx;unfold eR at hx;rcases al_List_mem_append.1 hx with hx|hx
 ·rcases al_List_mem_append.1 hx with hx|hx
  ·split at hx
   ·rename_i y hy;simp at hx;subst hx;exact h _ (aB hy)
   ·simp at hx
  ·exact h _ (cK hx)
 ·exact h _ (eW hx)
theorem jP{c:Ca}(h:iW c=true):0<c.sets.length∧c.sets.length≤4∧c.ways≤2∧1≤c.ways∧∀ s∈c.sets,(s.length:Int)≤c.ways:=by
 obtain⟨⟨h1,h2⟩,h3⟩:=(mK c).1 h;refine⟨by omega,by omega,by omega,by omega,λ s hs=>?_⟩;obtain⟨k,hk,rfl⟩:=eC hs;exact ((mE c k _).1 (h3 k _ (aA hk))).1
theorem Ew:∀ {l:List Wy} {line j:Nat},iZ l line=some j→j<l.length
 |[],_,_,h=>by cases h
 | w::l,line,j,h=>by
  simp only[iZ]at h;split at h
  ·injection h with h;subst h;simp
  ·obtain⟨i,hi,rfl⟩:=wV.1 h;have:=Ew hi;simp;omega
theorem rO{c:Ca}{k:Nat}{s:List Wy}(h:c.sets[k]?=some s):kD c k=s:=by unfold kD;rw[h];rfl
theorem yJ{c:Ca}(h:0<c.sets.length)(line:Nat):xO c line<c.sets.length:=aY _ h
theorem mB{c:Ca}{line:Nat}(h:iW c=true):aX c line=(xO c (lineOf line),iZ (kD c (xO c (lineOf line))) (lineOf line)):=if_pos h
theorem jX{c:Ca}{line:Nat}(h:(aX c line).2.isSome=true):iW c=true∧(aX c line).1=xO c (lineOf line)∧(aX c line).1<c.sets.length∧(aX c line).2.getD 0<(kD c (aX c line).1).length:=by
 by_cases hr:iW c=true
 ·rw[mB hr]at h⊢;obtain⟨j,hj⟩:=Fg.1 h;have hj':iZ (kD c (xO c (lineOf line))) (lineOf line)=some j:=hj;refine⟨hr,rfl,yJ (jP hr).1 _,?_⟩;show (iZ (kD c (xO c (lineOf line))) (lineOf line)).getD 0<_;rw[hj'];exact Ew hj'
 ·unfold aX at h;rw[if_neg hr]at h;cases h
theorem Ad{c:Ca}{line:Nat}(h:(aX c line).2.isSome=true):mL c line=nL c (aX c line).1 (eR (kD c (aX c line).1) ((aX c line).2.getD 0)):=by
 unfold mL;obtain⟨j,hj⟩:=Fg.1 h;have e:aX c line=((aX c line).1,some j):=by rw[←hj]
 rw[e];rfl
theorem Ae{c:Ca}{line:Nat}(h:(aX c line).2.isSome=false):mL c line=c:=by
 unfold mL;have hj:(aX c line).2=none:=by simpa using h
 have e:aX c line=((aX c line).1,none):=by rw[←hj]
 rw[e]
theorem ZA(a b:Int):max a b=if b>a then b else a:=by omega
theorem Mr(q:List Req)(kind:Int)(line:Nat)(left:Int)(data:ByteArray)(ck:Bool)(hq:q.length≤900000)(ho:∀ x∈q,x.ok)(hline:line≤4294967295):bT C0 171 [.sl 4 (q.map rqL) ck,vI kind,vU line,vI left,.v (.string data)] (.sl 4 ((oY q kind line left data).map rqL) false):=by
 refine bT.intro c0Ok Tryz.func171 rfl rfl (by kernel_rfl) rfl<|cSR<|oR 1 rfl<|rE 1<|cSR<|oR 1 rfl<|rW (vN q.length) rfl (cG rqL q) ?_;have b1:q.length+1≤900001:=aG hq (aC 1);refine rW (vN (q.length+1)) rfl (okI (bU b1 rfl))<|rFx (x:=.osl 4 0 0 false) (h':=upd _ 4 (some (.arr (([]:List Req).map rqL) 4))) rfl rfl (rfl) (⟨by decide,Ff.2 omT,by show (((q.length+1):Nat):Int)≤1000000;omega⟩)<|oR 1 rfl<|rE 6<|cSR<|oR 2 rfl<|rFx (x:=.osl 8 0 q.length false) (h':=upd (upd _ 4 none) 8 (some (.arr (q.map rqL) 4))) rfl rfl (gT rqL ([]:List Req) q omT omT) (⟨by exact omT,by exact omT,trivial⟩)<|oR 1 rfl<|rE 10<|cSR<|oR 4 rfl<|rV (vI (if 1>left then 1 else left)) rfl<|oR 1 rfl<|rV (.agg [vI kind,vU line,vI (if 1>left then 1 else left),.v (.string data)]) rfl<|rV (.sl 4 ([[vI kind,vU line,vI (if 1>left then 1 else left),.v (.string data)]]) true) rfl<|rFx (x:=.osl 18 0 (q.length+1) false) (h':=upd (upd _ 8 none) 18 (some (.arr ((q++([(⟨kind,line,if 1>left then 1 else left,data⟩:Req)])).map rqL) 4))) rfl rfl (gT rqL q ([(⟨kind,line,if 1>left then 1 else left,data⟩:Req)]) omT omT) (⟨by exact omT,by exact omT,trivial⟩)<|oR 1 rfl<|rE 20<|cO<|eQ rfl (by show 0+(q.length+1)≤((q++([(⟨kind,line,if 1>left then 1 else left,data⟩:Req)])).map rqL).length;exact omT) rfl ?_;show AV.sl 4 (List.take (q.length+1) (List.drop 0 ((q++([(⟨kind,line,if 1>left then 1 else left,data⟩:Req)])).map rqL))) false=_;rw[jQ rqL (q++([(⟨kind,line,if 1>left then 1 else left,data⟩:Req)])) omT];rw[show oY q kind line left data=q++([(⟨kind,line,if 1>left then 1 else left,data⟩:Req)])from by unfold oY;congr 3;exact ZA left 1]
abbrev tkA(t:List Req×Req×Bool):AV:=.tup [.sl 4 (t.1.map rqL) false,.agg (rqL t.2.1),vB t.2.2]
theorem Uy(q:List Req)(ck:Bool)(hq:q.length≤900000)(ho:∀ x∈q,x.ok):bT C0 91 [.sl 4 (q.map rqL) ck] (tkA (dO q)):=by
 refine dc1 (bT.intro c1Ok Tryz.func91 rfl rfl (by kernel_rfl) rfl ?_);refine cSR<|oR 1 rfl<|rAl 1 rfl rfl<|oR 1 rfl<|rE 3<|bK<|cSR<|oR 1 rfl<|rW (vN q.length) rfl (cG rqL q)<|rW (vB (q.length==0)) rfl (okB (eqN _ _))<|rE 6<|aV rfl (λ h1=>?_) (λ h1=>?_)
 ·have h1p:=mC h1;refine cSR<|oR 1 rfl<|rV (.agg [vI 0,.v (.int .u32 0),vI 0,.v (.string (⟨#[]⟩:ByteArray))]) rfl<|oR 1 rfl<|rSt rfl<|oR 1 rfl<|rE 11<|cO ?_;have q0:q=[]:=bA h1p;subst q0;exact⟨_,rfl,trivial,rfl,Sub.tup ⟨Sub.clip 4 _ ck,Sub.refl _,Sub.refl _,trivial⟩⟩
 ·have h1p:=mD h1;refine bB<|cSR<|oR 1 rfl<|rW (vN q.length) rfl (cG rqL q)<|rFx (x:=.osl 8 0 q.length false) (h':=upd _ 8 (some (.arr ((List.replicate q.length JB).map rqL) 4))) rfl rfl (Qc (gM (f:=rqL) (a:=JB)).symm) (⟨aF _,Ff.2 omT,by show ((q.length:Nat):Int)≤1000000;omega⟩)<|oR 1 rfl<|rE 10<|cSR<|oR 2 rfl<|rFx (x:=vI ((min ((q.map rqL).length) (q.length):Nat):Int)) (h':=upd _ 8 (some (.arr (q.map rqL) 4))) rfl rfl (Ic (DD rqL ((List.replicate q.length JB).map rqL) q omT omT)) (⟨by exact omT,trivial⟩)<|rE 13<|cSR<|oR 1 rfl<|nW (.ptr2 8 (0+0) 0) rfl rfl (⟨by decide,Fe.2 (by show 0<q.length;exact omT)⟩)<|oR 1 rfl ?_;obtain⟨x,hx⟩:∃ y_,q[0]?=some y_:=⟨_,aA omT⟩;have hxo:=ho x (aB hx);refine CP (rqL x) (x:=vI x.left) rfl rfl rfl (⟨by decide,IB (jH hx)⟩) rfl<|rV (vI (IntKind.wrap .i64 (x.left - 1))) rfl<|nW (.ptr2 8 (0+0) 0) rfl rfl (⟨by decide,Fe.2 (by show 0<q.length;exact omT)⟩)<|oR 1 rfl ?_;have hx1:(q.set 0 (⟨x.kind,x.line,IntKind.wrap .i64 (x.left - 1),x.data⟩:Req))[0]?=some (⟨x.kind,x.line,IntKind.wrap .i64 (x.left - 1),x.data⟩:Req):=aW omT;refine oS (rqL x) (h':=upd _ 8 (some (.arr ((q.set 0 (⟨x.kind,x.line,IntKind.wrap .i64 (x.left - 1),x.data⟩:Req)).map rqL) 4))) rfl rfl rfl (⟨by decide,IB (jH hx)⟩) (vE (f:=rqL) (l:=q) (k:=0) (x:=(⟨x.kind,x.line,IntKind.wrap .i64 (x.left - 1),x.data⟩:Req)))<|rE 21<|bK<|cSR<|oR 1 rfl<|nW (.ptr2 8 (0+0) 0) rfl rfl (⟨by decide,Fe.2 (by show 0<q.length;exact omT)⟩)<|oR 1 rfl<|CP (rqL (⟨x.kind,x.line,IntKind.wrap .i64 (x.left - 1),x.data⟩:Req)) (x:=vI (IntKind.wrap .i64 (x.left - 1))) rfl rfl rfl (⟨by decide,IB (jH hx1)⟩) rfl<|rV (vB (decide ((IntKind.wrap .i64 (x.left - 1))>0))) rfl<|rE 26<|aV rfl (λ h2=>?_) (λ h2=>?_)
  ·have h2p:=of_decide_eq_true h2;refine cSR<|oR 1 rfl<|rV (.agg [vI 0,.v (.int .u32 0),vI 0,.v (.string (⟨#[]⟩:ByteArray))]) rfl<|oR 1 rfl<|rSt rfl<|oR 1 rfl<|rE 31<|cO ?_
   try simp only[w64]at h2p
   obtain⟨l,hql⟩:∃ l,q=x::l:=by cases q with|nil=>cases hx|cons y l=>injection hx with hx;subst hx;exact⟨l,rfl⟩
   have hT:dO q=({x with left:=wrap64 (x.left - 1)}::l,JB,false):=by rw[hql];unfold dO;simp only[if_pos h2p]
   rw[hT];refine eQ rfl ⟨(by show 0+q.length≤((q.set 0 (⟨x.kind,x.line,IntKind.wrap .i64 (x.left - 1),x.data⟩:Req)).map rqL).length;exact omT),tvT,trivial,trivial⟩ rfl ?_;show AV.tup [.sl 4 (List.take q.length (List.drop 0 ((q.set 0 (⟨x.kind,x.line,IntKind.wrap .i64 (x.left - 1),x.data⟩:Req)).map rqL))) false,.agg [vI 0,.v (.int .u32 0),vI 0,.v (.string (⟨#[]⟩:ByteArray))],vB false]=_;rw[jQ rqL (q.set 0 (⟨x.kind,x.line,IntKind.wrap .i64 (x.left - 1),x.data⟩:Req)) omT];rw[hql];simp only[w64,jV]
   try rfl
  ·have h2p:=aE h2;refine bB<|bK<|Fp rfl rfl<|oR 1 rfl<|nW (.osl 8 1 (q.length - 1) false) rfl (Lc (by first|rfl|omega) (by simp only[Option.getD];omega)) slT<|oR 1 rfl<|nW (.ptr2 8 (0+0) 0) rfl rfl (⟨by decide,Fe.2 (by show 0<q.length;exact omT)⟩)<|CP (rqL (⟨x.kind,x.line,IntKind.wrap .i64 (x.left - 1),x.data⟩:Req)) (x:=.agg (rqL (⟨x.kind,x.line,IntKind.wrap .i64 (x.left - 1),x.data⟩:Req))) rfl rfl rfl (⟨by decide,IB (jH hx1)⟩) rfl<|oR 1 rfl<|rSt rfl<|oR 1 rfl<|rE 34<|And.intro (by kernel_rfl)<|cO ?_
   try simp only[w64]at h2p
   obtain⟨l,hql⟩:∃ l,q=x::l:=by cases q with|nil=>cases hx|cons y l=>injection hx with hx;subst hx;exact⟨l,rfl⟩
   have hT:dO q=(l,{x with left:=wrap64 (x.left - 1)},true):=by rw[hql];unfold dO;simp only[if_neg h2p]
   rw[hT];refine eQ rfl ⟨(by show 1+(q.length - 1)≤((q.set 0 (⟨x.kind,x.line,IntKind.wrap .i64 (x.left - 1),x.data⟩:Req)).map rqL).length;exact omT),tvT,trivial,trivial⟩ rfl ?_;show AV.tup [.sl 4 (List.take (q.length - 1) (List.drop 1 ((q.set 0 (⟨x.kind,x.line,IntKind.wrap .i64 (x.left - 1),x.data⟩:Req)).map rqL))) false,.agg [vI x.kind,vU x.line,vI (IntKind.wrap .i64 (x.left - 1)),.v (.string x.data)],vB true]=_;rw[BS (M:=(q.set 0 (⟨x.kind,x.line,IntKind.wrap .i64 (x.left - 1),x.data⟩:Req)).drop 1) rqL (q.set 0 (⟨x.kind,x.line,IntKind.wrap .i64 (x.left - 1),x.data⟩:Req)) (aM omT)];rw[hql];simp only[w64,jV,List.drop_succ_cons,cH]
   try rfl
theorem PX(s:List Wy)(k:Nat)(ck:Bool)(hk:k<s.length)(hs:s.length≤900000)(ho:∀ x∈s,x.ok):bT C0 153 [.sl 3 (s.map wyL) ck,vN k] (.sl 3 ((eR s k).map wyL) false):=by
 refine bT.intro c0Ok Tryz.func153 rfl rfl (by kernel_rfl) rfl<|cSR<|oR 1 rfl<|rE 1<|cSR<|oR 1 rfl<|rW (vN s.length) rfl (cG wyL s)<|rFx (x:=.osl 3 0 0 false) (h':=upd _ 3 (some (.arr (([]:List Wy).map wyL) 3))) rfl rfl (rfl) (⟨by decide,Ff.2 omT,by show ((s.length:Nat):Int)≤1000000;omega⟩)<|oR 1 rfl<|rE 5<|cSR<|oR 3 rfl ?_;obtain⟨x,hx⟩:∃ y_,s[k]?=some y_:=⟨_,aA omT⟩;refine rIx (wyL x) (.dp 3 0 (wyL x)) rfl rfl (jH hx) rfl<|oR 1 rfl<|rV (.sl 3 ([[vU x.line,vB x.dirty,.v (.string x.data)]]) true) rfl<|rFx (x:=.osl 11 0 1 false) (h':=upd (upd _ 3 none) 11 (some (.arr (([x]).map wyL) 3))) rfl rfl (gT wyL ([]:List Wy) ([x]) omT omT) (⟨by exact omT,by exact omT,trivial⟩)<|oR 1 rfl<|rE 13<|cSR<|oR 3 rfl<|nW (.sl 3 ((s.take k).map wyL) (ck&&false)) rfl (xJ (vF wyL s k)) slT<|rFx (x:=.osl 17 0 (1+k) false) (h':=upd (upd _ 11 none) 17 (some (.arr ((([x])++(s.take k)).map wyL) 3))) rfl rfl (gT wyL ([x]) (s.take k) omT omT) (⟨by exact omT,by exact omT,trivial⟩)<|oR 1 rfl<|rE 19<|cSR<|oR 3 rfl ?_;have b1:k+1≤900001:=aG omT (aC 1);refine rW (vN (k+1)) rfl (okI (bU b1 rfl))<|nW (.sl 3 ((s.drop (k+1)).map wyL) (ck&&true)) rfl (xJ (Jx wyL s (k+1))) slT<|rFx (x:=.osl 24 0 (1+k+s.length - (k+1)) false) (h':=upd (upd _ 17 none) 24 (some (.arr (((([x])++(s.take k))++(s.drop (k+1))).map wyL) 3))) rfl rfl (gT wyL (([x])++(s.take k)) (s.drop (k+1)) omT omT) (⟨by exact omT,by exact omT,trivial⟩)<|oR 1 rfl<|rE 26<|cO<|eQ rfl (by show 0+(1+k+s.length - (k+1))≤(((([x])++(s.take k))++(s.drop (k+1))).map wyL).length;exact omT) rfl ?_;show AV.sl 3 (List.take (1+k+s.length - (k+1)) (List.drop 0 (((([x])++(s.take k))++(s.drop (k+1))).map wyL))) false=_;rw[jQ wyL ((([x])++(s.take k))++(s.drop (k+1))) omT];rw[BQ hx]
theorem Uz(s:List Wy)(k:Nat)(ck:Bool)(hk:k<s.length)(hs:s.length≤900000)(ho:∀ x∈s,x.ok):pL C0.P C0.G 153 [.sl 3 (s.map wyL) ck,vN k] (heapF []) 0 (λ x h'=>x=.osl 0 0 s.length false∧h'=heapF [(0,.arr ((eR s k).map wyL) 3)]):=by
 refine HCall.intro (C:=C0) (s:=0) c0Ok.at Tryz.func153 rfl rfl (by kernel_rfl) rfl rfl<|cSR<|oR 1 rfl<|rE 1<|cSR<|oR 1 rfl<|rW (vN s.length) rfl (cG wyL s)<|rFx (x:=.osl 3 0 0 false) (h':=upd _ 3 (some (.arr (([]:List Wy).map wyL) 3))) rfl rfl (rfl) (⟨by decide,Ff.2 omT,by show ((s.length:Nat):Int)≤1000000;omega⟩)<|oR 1 rfl<|rE 5<|cSR<|oR 3 rfl ?_;obtain⟨x,hx⟩:∃ y_,s[k]?=some y_:=⟨_,aA omT⟩;refine rIx (wyL x) (.dp 3 0 (wyL x)) rfl rfl (jH hx) rfl<|oR 1 rfl<|rV (.sl 3 ([[vU x.line,vB x.dirty,.v (.string x.data)]]) true) rfl<|rFx (x:=.osl 11 0 1 false) (h':=upd (upd _ 3 none) 11 (some (.arr (([x]).map wyL) 3))) rfl rfl (gT wyL ([]:List Wy) ([x]) omT omT) (⟨by exact omT,by exact omT,trivial⟩)<|oR 1 rfl<|rE 13<|cSR<|oR 3 rfl<|nW (.sl 3 ((s.take k).map wyL) (ck&&false)) rfl (xJ (vF wyL s k)) slT<|rFx (x:=.osl 17 0 (1+k) false) (h':=upd (upd _ 11 none) 17 (some (.arr ((([x])++(s.take k)).map wyL) 3))) rfl rfl (gT wyL ([x]) (s.take k) omT omT) (⟨by exact omT,by exact omT,trivial⟩)<|oR 1 rfl<|rE 19<|cSR<|oR 3 rfl ?_;have b1:k+1≤900001:=aG omT (aC 1);refine rW (vN (k+1)) rfl (okI (bU b1 rfl))<|nW (.sl 3 ((s.drop (k+1)).map wyL) (ck&&true)) rfl (xJ (Jx wyL s (k+1))) slT<|rFx (x:=.osl 24 0 (1+k+s.length - (k+1)) false) (h':=upd (upd _ 17 none) 24 (some (.arr (((([x])++(s.take k))++(s.drop (k+1))).map wyL) 3))) rfl rfl (gT wyL (([x])++(s.take k)) (s.drop (k+1)) omT omT) (⟨by exact omT,by exact omT,trivial⟩)<|oR 1 rfl<|rE 26<|cO ?_;have e:(([x])++(s.take k))++(s.drop (k+1))=eR s k:=(BQ hx).symm;have e2:1+k+s.length - (k+1)=s.length:=by omega
 refine pE (rs:=[.osl 24 0 (1+k+s.length - (k+1)) false]) rfl (r:=.osl 0 0 s.length false) (h':=heapF [(0,.arr ((eR s k).map wyL) 3)]) (σ:=λ _=>24) ⟨rfl,rfl⟩ rfl (cB (λ _=>24) ?_ rfl ⟨⟨rfl,?_,rfl⟩,trivial⟩ rfl)
 ·show AV.osl 24 0 (1+k+s.length - (k+1)) false=.osl 24 0 s.length false;rw[e2]
 ·show some (Blk.arr (((([x])++(s.take k))++(s.drop (k+1))).map wyL) 3)=some (Blk.arr ((eR s k).map wyL) 3);rw[e]
theorem La(c:Ca)(k:Nat)(s:List Wy)(hok:c.ok)(hk:k<c.sets.length)(hl:c.sets.length≤900000)(hs:s.length≤900000)(ho:∀ x∈s,x.ok):bT C0 154 [.agg (caL c false),vN k,.sl 3 (s.map wyL) false] (.agg (caL (nL c k s) false)):=by
 refine bT.intro c0Ok Tryz.func154 rfl rfl (by kernel_rfl) rfl<|cSR<|rAl 0 rfl rfl<|rAl 1 rfl rfl<|rE 2<|cSR<|oR 2 rfl<|rW (vN c.sets.length) rfl (cG cE c.sets)<|rFx (x:=.osl 5 0 c.sets.length false) (h':=upd _ 5 (some (.arr (List.replicate c.sets.length [.sl 0 ([]) true]) 1))) rfl rfl (rfl) (⟨aF _,kQ _,by show ((c.sets.length:Nat):Int)≤1000000;have:=hl;omega⟩)<|oR 1 rfl<|rE 7<|cSR<|oR 3 rfl<|rFx (x:=vI ((min ((c.sets.map cE).length) (c.sets.length):Nat):Int)) (h':=upd _ 5 (some (.arr (c.sets.map cE) 1))) rfl rfl (Ic (DD cE (List.replicate c.sets.length [.sl 0 ([]) true]) c.sets omT omT)) (⟨by exact omT,trivial⟩)<|rE 11<|cSR<|oR 3 rfl<|nW (.ptr2 5 (0+k) 0) rfl rfl ixT ?_;obtain⟨x1,hx1⟩:∃ y_,c.sets[k]?=some y_:=⟨_,aA omT⟩;refine oS (cE x1) (h':=upd _ 5 (some (.arr ((c.sets.set k s).map cE) 1))) rfl rfl rfl (⟨aF _,IB (jH hx1)⟩) (vE (f:=cE) (l:=c.sets) (k:=k) (x:=s))<|rE 16<|cSR<|oR 3 rfl<|rV (.agg [vI c.ways,.osl 5 0 c.sets.length false]) rfl<|rSt rfl<|rE 21<|cO<|eQ rfl ⟨trivial,(by show 0+c.sets.length≤((c.sets.set k s).map cE).length;exact omT),trivial⟩ rfl ?_;show AV.agg [vI c.ways,.sl 1 (List.take c.sets.length (List.drop 0 ((c.sets.set k s).map cE))) false]=_;rw[jQ cE (c.sets.set k s) omT];refine congrArg (λ z=>AV.agg ((λ z=>caL z false) z)) (?_:(⟨c.ways,c.sets.set k s⟩:Ca)=nL c k s);rfl
theorem Af(c:Ca)(line:Nat)(hok:c.ok)(hline:line≤4294967295):bT C0 114 [.agg (caL c false),vU line] (.tup [vN (aX c line).1,vN ((aX c line).2.getD 0),vB (aX c line).2.isSome]):=by
 refine bT.intro c0Ok Tryz.func114 rfl rfl (by kernel_rfl) rfl<|cSR<|rAl 0 rfl rfl<|oR 3 rfl<|rE 4<|bK<|cSR<|oR 1 rfl<|rCi rfl (BZ c false hok)<|oR 1 rfl<|rE 7<|aV rfl (λ h1=>?_) (λ h1=>?_)
 ·refine cSR<|oR 3 rfl<|rE 10<|cO ?_;have hR:iW c=false:=by simpa using h1
  exact fT rfl (by unfold aX;rw[if_neg (by rw[hR];decide)];rfl)
 ·have hR:iW c=true:=by simpa using h1
  obtain⟨hs0,hs4,hw2,hw1,hsw⟩:=jP hR;have hkl:=yJ hs0 (lineOf line);refine bB<|cSR<|oR 1 rfl<|rCi rfl (tC line hline)<|oR 1 rfl<|rE 10<|cSR<|oR 2 rfl<|rCi rfl (UB c (lineOf line) false hs0 omT (dR hline))<|oR 1 rfl<|rE 14<|cSR<|oR 3 rfl ?_;obtain⟨s,hs⟩:∃ y_,c.sets[(xO c (lineOf line))]?=some y_:=⟨_,aA omT⟩;have hso:=hok.set s (aB hs);have hsl:s.length≤2:=by have:=hsw s (aB hs);omega
  refine rIx (cE s) (.dp 1 0 (cE s)) rfl rfl (jH hs) rfl<|oR 2 rfl<|rCi rfl (UC s (lineOf line) false omT hso.2 (dR hline))<|oR 5 rfl<|rE 26<|cSR<|oR 6 rfl<|rE 32<|cO ?_;exact fT rfl (by rw[mB hR,rO hs];rfl)
theorem AC(c:Ca)(line:Nat):(aX c line).1≤4∧(aX c line).2.getD 0≤2:=by
 by_cases h:iW c=true
 ·obtain⟨h0,h4,h2,h1,hw⟩:=jP h;rw[mB h];have hlt:=yJ h0 (lineOf line);refine⟨by show xO _ _≤4;omega,?_⟩;show (iZ _ _).getD 0≤2
  cases hp:iZ (kD c (xO c (lineOf line))) (lineOf line)with
  |none=>exact aD _
  |some j=>
   have:=Ew hp;rw[rO (aA hlt)]at this;have h3:=hw _ (iP hlt);show j≤2;omega
 ·unfold aX;rw[if_neg h];exact⟨aD _,aD _⟩
theorem HL(c:Ca)(line:Nat)(hok:c.ok)(hline:line≤4294967295):bT C0 118 [.agg (caL c false),vU line] (.agg (caL (mL c line) false)):=by
 refine dc1 (bT.intro c1Ok Tryz.func118 rfl rfl (by kernel_rfl) rfl ?_);have hFb:=AC c line;refine cSR<|rAl 0 rfl rfl<|rAl 1 rfl rfl<|rE 2<|cSR<|oR 2 rfl<|rCi rfl (Af c line hok hline)<|oR 7 rfl<|rE 12<|bK<|cSR<|oR 2 rfl<|rE 14<|aV rfl (λ h1=>?_) (λ h1=>?_)
 ·have hF:(aX c line).2.isSome=false:=by simpa using h1
  refine cSR<|oR 1 rfl<|rSt rfl<|rE 16<|cO ?_;exact eQ rfl ⟨trivial,trivial,trivial⟩ rfl (by rw[Ae hF];rfl)
 ·have hF:(aX c line).2.isSome=true:=by simpa using h1
  obtain⟨hR,hF1,hF2,hF3⟩:=jX hF;obtain⟨hs0,hs4,hw2,hw1,hsw⟩:=jP hR;refine bB<|cSR<|oR 5 rfl ?_;obtain⟨s,hs⟩:∃ y_,c.sets[((aX c line).1)]?=some y_:=⟨_,aA omT⟩;have hso:=hok.set s (aB hs);have hse:=rO hs;rw[hse]at hF3;have hsl:s.length≤2:=by have:=hsw s (aB hs);omega
  refine rIx (cE s) (.dp 1 0 (cE s)) rfl rfl (jH hs) rfl<|oR 2 rfl<|rCi rfl (PX s ((aX c line).2.getD 0) false hF3 omT hso.2)<|rCi rfl (La c ((aX c line).1) (eR s ((aX c line).2.getD 0)) hok hF2 omT (by rw[pP hF3];omega) (pQ hso.2))<|rSt rfl<|rE 25<|cO ?_;exact eQ rfl ⟨trivial,trivial,trivial⟩ rfl (by rw[Ad hF,hse];rfl)
theorem Ex{α:Type}{f:α→α}{l:List α}{x:α}(h:l[0]?=some x):modHd f l=l.set 0 (f x):=by
 cases l with
 |nil=>cases h
 |cons y l=>injection h with h;subst h;rfl
theorem Gp{α:Type}(l:List α)(x:α)(n:Nat)(hn:n=l.length):eR (l++[x]) n=x::l:=by
 subst hn;rw[BQ (x:=x) (by simp)];simp
theorem Ms{c:Ca}(h:iW c=false)(line:Nat)(d:ByteArray)(b:Bool):mF c line d b=(c,pD,false):=by unfold mF;rw[if_neg (by rw[h];decide)]
theorem BR{c:Ca}{line:Nat}(hF:(aX c line).2.isSome=true)(d:ByteArray)(b:Bool):mF c line d b=(nL c (aX c line).1 (modHd (λ w=>{w with data:=if (cP d).size=0 then w.data else cP d,dirty:=w.dirty||b}) (eR (kD c (aX c line).1) ((aX c line).2.getD 0))),pD,false):=by
 unfold mF;obtain⟨j,hj⟩:=Fg.1 hF;have e:aX c line=((aX c line).1,some j):=by rw[←hj]
 rw[if_pos (jX hF).1,e];rfl
theorem xI{c:Ca}{line:Nat}(hR:iW c=true)(hF:(aX c line).2.isSome=false)(d:ByteArray)(b:Bool):mF c line d b=if ((kD c (aX c line).1).length:Int)=c.ways then (nL c (aX c line).1 (⟨lineOf line,b,cP d⟩::(kD c (aX c line).1).dropLast),(kD c (aX c line).1).getLast?.getD pD,true)else (nL c (aX c line).1 (⟨lineOf line,b,cP d⟩::kD c (aX c line).1),pD,false):=by
 unfold mF;have hj:(aX c line).2=none:=by simpa using hF
 have e:aX c line=((aX c line).1,none):=by rw[←hj]
 rw[if_pos hR,e]
abbrev aa1(p:Ca×Wy×Bool):AV:=.tup [.agg (caL p.1 false),.agg (wyL p.2.1),vB p.2.2]
theorem yK(d:ByteArray):d.toList.length=d.size:=by
 rw[ByteArray.toList_eq];exact cW
theorem SQ{d:ByteArray}(h: ¬ d.size=0):(!(d.toList==(⟨#[]⟩:ByteArray).toList))=true:=by
 cases hd:d.toList==(⟨#[]⟩:ByteArray).toList with
 |false=>rfl
 |true=>
  have:=congrArg List.length (eq_of_beq hd);rw[yK,yK]at this;exact absurd this h
theorem yZ(d:ByteArray):(d.toList==(⟨#[]⟩:ByteArray).toList)=decide (d.size=0):=by
 by_cases h:d.size=0
 ·rw[nB h];have e:d.toList=(⟨#[]⟩:ByteArray).toList:=by rw[ByteArray.toList_eq,ByteArray.toList_eq];exact bA (by rw[cW];exact h)
  rw[e];exact beq_self_eq_true _
 ·rw[sI h];have:=SQ h;simpa using this
theorem Ye{d:ByteArray}(h:(!(d.toList==(⟨#[]⟩:ByteArray).toList))=true): ¬ d.size=0:=by rw[yZ]at h;simpa using h
theorem Yf{d:ByteArray}(h:(!(d.toList==(⟨#[]⟩:ByteArray).toList))=false):d.size=0:=by rw[yZ]at h;simpa using h
theorem NH{d:ByteArray}(h: ¬ d.size=16):cP d=nE:=if_neg h
theorem Lb{d:ByteArray}(h:d.size=16):cP d=d:=if_pos h
theorem PY(c:Ca)(line:Nat)(data:ByteArray)(dirty:Bool)(hok:c.ok)(hline:line≤4294967295):bT C0 95 [.agg (caL c false),vU line,.v (.string data),.v (.bool dirty)] (aa1 (mF c line data dirty)):=by
 refine dc1 (bT.intro c1Ok Tryz.func95 rfl rfl (by kernel_rfl) rfl ?_);have hFb:=AC c line;refine cSR<|rAl 0 rfl rfl<|rAl 1 rfl rfl<|rAl 2 rfl rfl<|oR 1 rfl<|rE 4<|bK<|cSR<|oR 1 rfl<|rCi rfl (BZ c false hok)<|oR 1 rfl<|rE 7<|aV rfl (λ h1=>?_) (λ h1=>?_)
 ·have hR:iW c=false:=by simpa using h1
  refine cSR<|oR 1 rfl<|rV (.agg [zU,vB false,.v (.string (⟨#[]⟩:ByteArray))]) rfl<|rSt rfl<|rSt rfl<|oR 1 rfl<|rE 12<|cO ?_;rw[Ms hR];exact fT rfl rfl
 ·have hR:iW c=true:=by simpa using h1
  obtain⟨hs0,hs4,hw2,hw1,hsw⟩:=jP hR;have hF2:(aX c line).1<c.sets.length:=by rw[mB hR];exact yJ hs0 _
  refine bB<|FF (κ:=Unit) (λ u_=>⟨slotsF [(1,vU line),(2,.v (.string (cP data))),(3,vB dirty),(4,.ptr 0 0),(8,.ptr 1 0),(9,.ptr 2 0),(10,vB false)],heapF [(0,.box [vI c.ways,.sl 1 (c.sets.map cE) false]),(1,.box [vI 0,.sl 0 ([]) true]),(2,.box [zU,vB false,.v (.string (⟨#[]⟩:ByteArray))])],7⟩) (λ u_=>True) ?_ ?_
  ·refine cSR<|oR 1 rfl<|rV (vN data.size) rfl<|rW (vB (data.size != 16)) rfl (okB (neN _ _))<|rE 10<|aV rfl (λ h2=>?_) (λ h2=>?_)
   ·have h2p:=wN h2;refine cRg<|oR 1 rfl<|rE 11<|.mk _ (.refl _) ⟨(),λ s=>s,Weak.of_lists _ ⟨⟨rfl,rfl⟩,⟨(congrArg (λ z=>AV.v (.string z)) (show (⟨#[]⟩:ByteArray)=cP data from (NH omT).symm)),rfl⟩,⟨rfl,rfl⟩,⟨rfl,rfl⟩,⟨rfl,rfl⟩,⟨rfl,rfl⟩,⟨rfl,rfl⟩,trivial⟩ wH rfl,rfl,trivial⟩
   ·have h2p:=wO h2;refine bB<|.mk _ (.refl _) ⟨(),λ s=>s,Weak.of_lists _ ⟨⟨rfl,rfl⟩,⟨(congrArg (λ z=>AV.v (.string z)) (show data=cP data from (Lb omT).symm)),rfl⟩,⟨rfl,rfl⟩,⟨rfl,rfl⟩,⟨rfl,rfl⟩,⟨rfl,rfl⟩,⟨rfl,rfl⟩,trivial⟩ wH rfl,rfl,trivial⟩
  ·intro u_ _;refine cSR<|oR 2 rfl<|rCi rfl (Af c line hok hline)<|oR 7 rfl<|rE 17<|bK<|cSR<|oR 1 rfl<|rE 18<|aV rfl (λ h3=>?_) (λ h3=>?_)
   ·have hF:(aX c line).2.isSome=true:=by simpa using h3
    have hF3:=(jX hF).2.2.2;refine cSR<|oR 3 rfl ?_;obtain⟨s,hs⟩:∃ y_,c.sets[((aX c line).1)]?=some y_:=⟨_,aA omT⟩;have hso:=hok.set s (aB hs);have hse:=rO hs;have hsl:s.length≤2:=by have:=hsw s (aB hs);omega
    rw[hse]at hF3;have hfl:=pP hF3;refine rIx (cE s) (.dp 1 0 (cE s)) rfl rfl (jH hs) rfl<|oR 2 rfl<|fR _ rfl rfl rfl ((Uz s ((aX c line).2.getD 0) false omT omT hso.2).frame0 _ _ rfl) ?_;rintro _ _ ⟨rfl,rfl⟩;refine oR 1 rfl<|rE 26<|bK<|cSR<|oR 1 rfl<|rV (vB (!((cP data).toList==(⟨#[]⟩:ByteArray).toList))) rfl<|rE 28<|aV rfl (λ h4=>?_) (λ h4=>?_)
    ·refine cRg<|oR 2 rfl<|nW (.ptr2 24 (0+0) 0) rfl rfl (⟨by decide,Fe.2 (by show 0<s.length;exact omT)⟩)<|oR 1 rfl ?_;obtain⟨w,hw⟩:∃ y_,(eR s ((aX c line).2.getD 0))[0]?=some y_:=⟨_,aA omT⟩;have hwo:=(pQ hso.2) w (aB hw);have hx1:((eR s ((aX c line).2.getD 0)).set 0 (⟨w.line,w.dirty,(cP data)⟩:Wy))[0]?=some (⟨w.line,w.dirty,(cP data)⟩:Wy):=aW omT;refine oS (wyL w) (h':=upd _ 24 (some (.arr (((eR s ((aX c line).2.getD 0)).set 0 (⟨w.line,w.dirty,(cP data)⟩:Wy)).map wyL) 3))) rfl rfl rfl (⟨by decide,IB (jH hw)⟩) (vE (f:=wyL) (l:=eR s ((aX c line).2.getD 0)) (k:=0) (x:=(⟨w.line,w.dirty,(cP data)⟩:Wy)))<|rE 33<|Jb<|cRg<|oR 2 rfl<|nW (.ptr2 24 (0+0) 0) rfl rfl (⟨by decide,Fe.2 (by show 0<s.length;exact omT)⟩)<|oR 1 rfl<|CP (wyL (⟨w.line,w.dirty,(cP data)⟩:Wy)) (x:=vB w.dirty) rfl rfl rfl (⟨by decide,IB (jH hx1)⟩) rfl<|oR 1 rfl<|gN rfl<|cS rfl rfl rfl (by simp)<|nW (.ptr2 24 (0+0) 0) rfl rfl (⟨by decide,Fe.2 (by show 0<s.length;exact omT)⟩)<|oR 1 rfl ?_;have hx2:(((eR s ((aX c line).2.getD 0)).set 0 (⟨w.line,w.dirty,(cP data)⟩:Wy)).set 0 (⟨w.line,dE w.dirty true dirty,(cP data)⟩:Wy))[0]?=some (⟨w.line,dE w.dirty true dirty,(cP data)⟩:Wy):=aW omT;refine oS (wyL (⟨w.line,w.dirty,(cP data)⟩:Wy)) (h':=upd _ 24 (some (.arr ((((eR s ((aX c line).2.getD 0)).set 0 (⟨w.line,w.dirty,(cP data)⟩:Wy)).set 0 (⟨w.line,dE w.dirty true dirty,(cP data)⟩:Wy)).map wyL) 3))) rfl rfl rfl (⟨by decide,IB (jH hx1)⟩) (vE (f:=wyL) (l:=(eR s ((aX c line).2.getD 0)).set 0 (⟨w.line,w.dirty,(cP data)⟩:Wy)) (k:=0) (x:=(⟨w.line,dE w.dirty true dirty,(cP data)⟩:Wy)))<|rE 44<| .mk _ (.step (some (24,3,(((eR s ((aX c line).2.getD 0)).set 0 (⟨w.line,w.dirty,(cP data)⟩:Wy)).set 0 (⟨w.line,dE w.dirty true dirty,(cP data)⟩:Wy)).map wyL)) (Ghost.of_lists (l:=[(1,vU line),(2,.v (.string (cP data))),(3,vB dirty),(4,.ptr 0 0),(8,.ptr 1 0),(9,.ptr 2 0),(10,vB false),(11,vN ((aX c line).1)),(35,vB ((aX c line).2.isSome)),(14,.sl 3 ((((eR s ((aX c line).2.getD 0)).set 0 (⟨w.line,w.dirty,(cP data)⟩:Wy)).set 0 (⟨w.line,dE w.dirty true dirty,(cP data)⟩:Wy)).map wyL) false),(44,vB (!((cP data).toList==(⟨#[]⟩:ByteArray).toList)))]) (hp:=[(0,.box [vI c.ways,.sl 1 (c.sets.map cE) false]),(1,.box [vI 0,.sl 0 ([]) true]),(2,.box [zU,vB false,.v (.string (⟨#[]⟩:ByteArray))])]) rfl rfT rbT) (.refl _))<|cSR<|oR 3 rfl<|rCi rfl (La c ((aX c line).1) (((eR s ((aX c line).2.getD 0)).set 0 (⟨w.line,w.dirty,(cP data)⟩:Wy)).set 0 (⟨w.line,dE w.dirty true dirty,(cP data)⟩:Wy)) hok hF2 omT (by first|exact omT|(rw[pP omT];exact omT)) (mem_set (P:=Wy.ok) (mem_set (P:=Wy.ok) (pQ hso.2) ⟨hwo.line⟩) ⟨hwo.line⟩))<|rV (.agg [zU,vB false,.v (.string (⟨#[]⟩:ByteArray))]) rfl<|rSt rfl<|rSt rfl<|oR 1 rfl<|rE 52<|cO ?_;rw[BR hF,hse,Ex hw,if_neg (Ye h4)]
     try rw[nD]
     try rw[nD]
     exact fT rfl (by simp only[cOr,nD];rfl)
    ·refine bB<|Jb<|cRg<|oR 2 rfl<|nW (.ptr2 24 (0+0) 0) rfl rfl (⟨by decide,Fe.2 (by show 0<s.length;exact omT)⟩)<|oR 1 rfl ?_;obtain⟨w,hw⟩:∃ y_,(eR s ((aX c line).2.getD 0))[0]?=some y_:=⟨_,aA omT⟩;have hwo:=(pQ hso.2) w (aB hw);refine CP (wyL w) (x:=vB w.dirty) rfl rfl rfl (⟨by decide,IB (jH hw)⟩) rfl<|oR 1 rfl<|gN rfl<|cS rfl rfl rfl (by simp)<|nW (.ptr2 24 (0+0) 0) rfl rfl (⟨by decide,Fe.2 (by show 0<s.length;exact omT)⟩)<|oR 1 rfl ?_;have hx3:((eR s ((aX c line).2.getD 0)).set 0 (⟨w.line,dE w.dirty true dirty,w.data⟩:Wy))[0]?=some (⟨w.line,dE w.dirty true dirty,w.data⟩:Wy):=aW omT;refine oS (wyL w) (h':=upd _ 24 (some (.arr (((eR s ((aX c line).2.getD 0)).set 0 (⟨w.line,dE w.dirty true dirty,w.data⟩:Wy)).map wyL) 3))) rfl rfl rfl (⟨by decide,IB (jH hw)⟩) (vE (f:=wyL) (l:=eR s ((aX c line).2.getD 0)) (k:=0) (x:=(⟨w.line,dE w.dirty true dirty,w.data⟩:Wy)))<|rE 39<| .mk _ (.step (some (24,3,((eR s ((aX c line).2.getD 0)).set 0 (⟨w.line,dE w.dirty true dirty,w.data⟩:Wy)).map wyL)) (Ghost.of_lists (l:=[(1,vU line),(2,.v (.string (cP data))),(3,vB dirty),(4,.ptr 0 0),(8,.ptr 1 0),(9,.ptr 2 0),(10,vB false),(11,vN ((aX c line).1)),(35,vB ((aX c line).2.isSome)),(14,.sl 3 (((eR s ((aX c line).2.getD 0)).set 0 (⟨w.line,dE w.dirty true dirty,w.data⟩:Wy)).map wyL) false),(44,vB (!((cP data).toList==(⟨#[]⟩:ByteArray).toList)))]) (hp:=[(0,.box [vI c.ways,.sl 1 (c.sets.map cE) false]),(1,.box [vI 0,.sl 0 ([]) true]),(2,.box [zU,vB false,.v (.string (⟨#[]⟩:ByteArray))])]) rfl rfT rbT) (.refl _))<|cSR<|oR 3 rfl<|rCi rfl (La c ((aX c line).1) ((eR s ((aX c line).2.getD 0)).set 0 (⟨w.line,dE w.dirty true dirty,w.data⟩:Wy)) hok hF2 omT (by first|exact omT|(rw[pP omT];exact omT)) (mem_set (P:=Wy.ok) (pQ hso.2) ⟨hwo.line⟩))<|rV (.agg [zU,vB false,.v (.string (⟨#[]⟩:ByteArray))]) rfl<|rSt rfl<|rSt rfl<|oR 1 rfl<|rE 47<|cO ?_;rw[BR hF,hse,Ex hw,if_pos (Yf h4)]
     try rw[nD]
     exact fT rfl (by simp only[cOr,nD];rfl)
   ·have hF:(aX c line).2.isSome=false:=by simpa using h3
    refine bB<|cSR<|oR 3 rfl ?_;obtain⟨s,hs⟩:∃ y_,c.sets[((aX c line).1)]?=some y_:=⟨_,aA omT⟩;have hso:=hok.set s (aB hs);have hse:=rO hs;have hsl:s.length≤2:=by have:=hsw s (aB hs);omega
    refine rIx (cE s) (.dp 1 0 (cE s)) rfl rfl (jH hs) rfl<|oR 2 rfl<|rE 24<|bK<|Fp rfl rfl<|rV (.agg [zU,vB false,.v (.string (⟨#[]⟩:ByteArray))]) rfl<|oR 1 rfl<|rW (vN s.length) rfl (cG wyL s)<|oR 2 rfl<|rV (vB (((s.length:Nat):Int)==c.ways)) rfl<|rAl 30 rfl rfl<|rSt rfl<|oR 1 rfl<|rE 33<|And.intro (by kernel_rfl)<|bK<|cSR<|oR 1 rfl<|rE 34<|aV rfl (λ h5=>?_) (λ h5=>?_)
    ·have h5p:=mC h5
     try have hq:(s.length:Int)=c.ways:=by simpa using h5
     try have hq: ¬ (s.length:Int)=c.ways:=by simpa using h5
     refine cSR<|oR 1 rfl<|rW (vN s.length) rfl (cG wyL s) ?_;have b1:s.length - 1≤2:=aL (jT _ _) hsl;refine rW (vN (s.length - 1)) rfl (okI (CZ omT hsl rfl))<|oR 1 rfl<|rE 38<|Fp rfl rfl<|oR 2 rfl ?_;obtain⟨g,hg⟩:∃ y_,s[(s.length - 1)]?=some y_:=⟨_,aA omT⟩;have hgo:=hso.2 g (aB hg);refine rIx (wyL g) (.dp 3 0 (wyL g)) rfl rfl (jH hg) rfl<|oR 3 rfl<|nW (.sl 3 ((s.take (s.length - 1)).map wyL) false) rfl (xJ (vF wyL s (s.length - 1))) slT<|rSt rfl<|oR 1 rfl<|rE 47<|And.intro (by kernel_rfl)<|cSR<|oR 1 rfl<|rW (vN (s.length - 1)) rfl (vD wyL (s.take (s.length - 1)) omT) ?_;have b2:(s.length - 1)+1≤3:=aG (by have:=hsl;exact omT) (aC 1);refine rW (vN ((s.length - 1)+1)) rfl (okI (bU b2 rfl))<|rFx (x:=.osl 50 0 0 false) (h':=upd _ 50 (some (.arr (([]:List Wy).map wyL) 3))) rfl rfl (rfl) (⟨by decide,Ff.2 omT,by show ((((s.length - 1)+1):Nat):Int)≤1000000;omega⟩)<|oR 1 rfl<|rE 52<|cSR<|oR 2 rfl<|rFx (x:=.osl 54 0 (s.length - 1) false) (h':=upd (upd _ 50 none) 54 (some (.arr ((s.take (s.length - 1)).map wyL) 3))) rfl rfl (gT wyL ([]:List Wy) (s.take (s.length - 1)) omT omT) (⟨by exact omT,by exact omT,trivial⟩)<|oR 1 rfl<|rE 56<|Jb<|cRg<|oR 2 rfl<|rCi rfl (tC line hline)<|oR 2 rfl<|rV (.agg [vU (lineOf line),vB dirty,.v (.string (cP data))]) rfl<|rV (.sl 3 ([[vU (lineOf line),vB dirty,.v (.string (cP data))]]) true) rfl<|rFx (x:=.osl 63 0 ((s.length - 1)+1) false) (h':=upd (upd _ 54 none) 63 (some (.arr (((s.take (s.length - 1))++([(⟨lineOf line,dirty,(cP data)⟩:Wy)])).map wyL) 3))) rfl rfl (gT wyL (s.take (s.length - 1)) ([(⟨lineOf line,dirty,(cP data)⟩:Wy)]) omT omT) (⟨by exact omT,by exact omT,trivial⟩)<|oR 1 rfl<|rE 65<| .mk _ (.step (some (63,3,((s.take (s.length - 1))++([(⟨lineOf line,dirty,(cP data)⟩:Wy)])).map wyL)) (Ghost.of_lists (l:=[(4,.ptr 0 0),(8,.ptr 1 0),(9,.ptr 2 0),(10,vB false),(11,vN ((aX c line).1)),(35,vB ((aX c line).2.isSome)),(15,.sl 3 ((s.take (s.length - 1)).map wyL) false),(16,.ptr 30 0),(17,vB (((s.length:Nat):Int)==c.ways)),(75,vB (((s.length:Nat):Int)==c.ways)),(19,.sl 3 (((s.take (s.length - 1))++([(⟨lineOf line,dirty,(cP data)⟩:Wy)])).map wyL) false)]) (hp:=[(0,.box [vI c.ways,.sl 1 (c.sets.map cE) false]),(1,.box [vI 0,.sl 0 ([]) true]),(2,.box [zU,vB false,.v (.string (⟨#[]⟩:ByteArray))]),(30,.box (wyL g))]) rfl rfT rbT) (.refl _))<|bK<|Fp rfl rfl<|oR 4 rfl<|rW (vN (s.length - 1)) rfl (vD wyL (s.take (s.length - 1)) omT)<|rCi rfl (PX ((s.take (s.length - 1))++([(⟨lineOf line,dirty,(cP data)⟩:Wy)])) (s.length - 1) false omT omT (rP (yL hso.2) (rQ (P:=Wy.ok) ⟨(dR hline)⟩)))<|rCi rfl (La c ((aX c line).1) (eR ((s.take (s.length - 1))++([(⟨lineOf line,dirty,(cP data)⟩:Wy)])) (s.length - 1)) hok hF2 omT (by first|exact omT|(rw[pP omT];exact omT)) (pQ (rP (yL hso.2) (rQ (P:=Wy.ok) ⟨(dR hline)⟩))))<|oR 2 rfl<|rSt rfl<|rSt rfl<|oR 1 rfl<|rE 77<|And.intro (by kernel_rfl)<|cO ?_;rw[xI hR hF,hse,if_pos hq];refine fT rfl ?_;show AV.tup [.agg [vI ((nL c ((aX c line).1) (eR ((s.take (s.length - 1))++([(⟨lineOf line,dirty,(cP data)⟩:Wy)])) (s.length - 1))).ways),.sl 1 (((nL c ((aX c line).1) (eR ((s.take (s.length - 1))++([(⟨lineOf line,dirty,(cP data)⟩:Wy)])) (s.length - 1))).sets).map cE) false],.agg (wyL g),vB (((s.length:Nat):Int)==c.ways)]=_;rw[Gp _ _ _ omT,h5];rw[←eB,show s.getLast?.getD pD=g from by rw[oW,hg];rfl]
     try rfl
    ·have h5p:=mD h5
     try have hq:(s.length:Int)=c.ways:=by simpa using h5
     try have hq: ¬ (s.length:Int)=c.ways:=by simpa using h5
     refine bB<|cSR<|oR 1 rfl<|rW (vN s.length) rfl (cG wyL s) ?_;have b3:s.length+1≤3:=aG hsl (aC 1);refine rW (vN (s.length+1)) rfl (okI (bU b3 rfl))<|rFx (x:=.osl 37 0 0 false) (h':=upd _ 37 (some (.arr (([]:List Wy).map wyL) 3))) rfl rfl (rfl) (⟨by decide,Ff.2 omT,by show (((s.length+1):Nat):Int)≤1000000;omega⟩)<|oR 1 rfl<|rE 39<|cSR<|oR 2 rfl<|rFx (x:=.osl 41 0 s.length false) (h':=upd (upd _ 37 none) 41 (some (.arr (s.map wyL) 3))) rfl rfl (gT wyL ([]:List Wy) s omT omT) (⟨by exact omT,by exact omT,trivial⟩)<|oR 1 rfl<|rE 43<|Jb<|cRg<|oR 2 rfl<|rCi rfl (tC line hline)<|oR 2 rfl<|rV (.agg [vU (lineOf line),vB dirty,.v (.string (cP data))]) rfl<|rV (.sl 3 ([[vU (lineOf line),vB dirty,.v (.string (cP data))]]) true) rfl<|rFx (x:=.osl 50 0 (s.length+1) false) (h':=upd (upd _ 41 none) 50 (some (.arr ((s++([(⟨lineOf line,dirty,(cP data)⟩:Wy)])).map wyL) 3))) rfl rfl (gT wyL s ([(⟨lineOf line,dirty,(cP data)⟩:Wy)]) omT omT) (⟨by exact omT,by exact omT,trivial⟩)<|oR 1 rfl<|rE 52<| .mk _ (.step (some (50,3,(s++([(⟨lineOf line,dirty,(cP data)⟩:Wy)])).map wyL)) (Ghost.of_lists (l:=[(4,.ptr 0 0),(8,.ptr 1 0),(9,.ptr 2 0),(10,vB false),(11,vN ((aX c line).1)),(35,vB ((aX c line).2.isSome)),(15,.sl 3 (s.map wyL) false),(16,.ptr 30 0),(17,vB (((s.length:Nat):Int)==c.ways)),(75,vB (((s.length:Nat):Int)==c.ways)),(19,.sl 3 ((s++([(⟨lineOf line,dirty,(cP data)⟩:Wy)])).map wyL) false)]) (hp:=[(0,.box [vI c.ways,.sl 1 (c.sets.map cE) false]),(1,.box [vI 0,.sl 0 ([]) true]),(2,.box [zU,vB false,.v (.string (⟨#[]⟩:ByteArray))]),(30,.box [zU,vB false,.v (.string (⟨#[]⟩:ByteArray))])]) rfl rfT rbT) (.refl _))<|bK<|Fp rfl rfl<|oR 4 rfl<|rW (vN s.length) rfl (cG wyL s)<|rCi rfl (PX (s++([(⟨lineOf line,dirty,(cP data)⟩:Wy)])) s.length false omT omT (rP hso.2 (rQ (P:=Wy.ok) ⟨(dR hline)⟩)))<|rCi rfl (La c ((aX c line).1) (eR (s++([(⟨lineOf line,dirty,(cP data)⟩:Wy)])) s.length) hok hF2 omT (by first|exact omT|(rw[pP omT];exact omT)) (pQ (rP hso.2 (rQ (P:=Wy.ok) ⟨(dR hline)⟩))))<|oR 2 rfl<|rSt rfl<|rSt rfl<|oR 1 rfl<|rE 64<|And.intro (by kernel_rfl)<|cO ?_;rw[xI hR hF,hse,if_neg hq];refine fT rfl ?_;show AV.tup [.agg [vI ((nL c ((aX c line).1) (eR (s++([(⟨lineOf line,dirty,(cP data)⟩:Wy)])) s.length)).ways),.sl 1 (((nL c ((aX c line).1) (eR (s++([(⟨lineOf line,dirty,(cP data)⟩:Wy)])) s.length)).sets).map cE) false],.agg [zU,vB false,.v (.string (⟨#[]⟩:ByteArray))],vB (((s.length:Nat):Int)==c.ways)]=_;rw[Gp _ _ _ omT,h5]
     try rfl
theorem Wa{a:Nat}(h:a≤4294967295):IntKind.wrap .u32 ((a:Int) - ((lineOf a:Nat):Int))=((a % 16:Nat):Int):=by
 rw[Ug (B:=4294967295) (dR h) rfl];have:(a+4294967296 - lineOf a) % 4294967296=a % 16:=by unfold lineOf;omega
 rw[this]
theorem SR{c:Ca}{k j:Nat}{s:List Wy}{x:Wy}(hR:iW c=true)(hs:c.sets[k]?=some s)(hx:s[j]?=some x):x.data.size=0∨x.data.size=16:=
 (((mE c k s).1 (((mK c).1 hR).2 k s hs)).2 j x hx).2.2.1
theorem Cz{c:Ca}{addr:Nat}(b:ByteArray)(hF:(aX c addr).2.isSome=false):mV c addr b=(c,false):=by
 unfold mV;have hj:(aX c addr).2=none:=by simpa using hF
 have e:aX c addr=((aX c addr).1,none):=by rw[←hj]
 rw[e]
theorem wC{c:Ca}{addr:Nat}{s:List Wy}{x:Wy}(b:ByteArray)(hF:(aX c addr).2.isSome=true)(hs:kD c (aX c addr).1=s)(hx:s[(aX c addr).2.getD 0]?=some x):
  mV c addr b=if x.data.size=0∨b.size+addr % 16>16 then (c,false)else (nL c (aX c addr).1 (modHd (λ w=>{w with data:=yO w.data (addr % 16) b,dirty:=true}) (eR s ((aX c addr).2.getD 0))),true):=by
 unfold mV;obtain⟨j,hj⟩:=Fg.1 hF;have e:aX c addr=((aX c addr).1,some j):=by rw[←hj]
 rw[hj]at hx⊢;have hx':(kD c (aX c addr).1)[j]?=some x:=by rw[hs];exact hx
 rw[e];have hx2:s[j]?=some x:=hx;simp only[hs,hx2];rfl
theorem PZ{α:Type}{l:List α}{k:Nat}{x:α}(h:l[k]?=some x):(eR l k)[0]?=some x:=by rw[BQ h];rfl
abbrev wrA(p:Ca×Bool):AV:=.tup [.agg (caL p.1 false),vB p.2]
theorem SS(c:Ca)(addr:Nat)(bytes:ByteArray)(hok:c.ok)(hline:addr≤4294967295):bT C0 174 [.agg (caL c false),vU addr,.v (.string bytes)] (wrA (mV c addr bytes)):=by
 refine dc1 (bT.intro c1Ok Tryz.func174 rfl rfl (by kernel_rfl) rfl ?_);have hFb:=AC c addr;refine cSR<|rAl 0 rfl rfl<|rAl 1 rfl rfl<|oR 1 rfl<|rE 3<|cSR<|oR 2 rfl<|rCi rfl (Af c addr hok hline)<|oR 7 rfl<|rE 13<|bK<|cSR<|oR 2 rfl<|rE 15<|aV rfl (λ h1=>?_) (λ h1=>?_)
 ·have hF:(aX c addr).2.isSome=false:=by simpa using h1
  refine cSR<|oR 1 rfl<|rSt rfl<|oR 1 rfl<|rE 18<|cO ?_;rw[Cz bytes hF];exact fT rfl rfl
 ·have hF:(aX c addr).2.isSome=true:=by simpa using h1
  obtain⟨hR,hF1,hF2,hF3⟩:=jX hF;obtain⟨hs0,hs4,hw2,hw1,hsw⟩:=jP hR;refine bB<|cSR<|oR 3 rfl ?_;obtain⟨s,hs⟩:∃ y_,c.sets[((aX c addr).1)]?=some y_:=⟨_,aA omT⟩;have hso:=hok.set s (aB hs);have hse:=rO hs;rw[hse]at hF3;have hsl:s.length≤2:=by have:=hsw s (aB hs);omega
  have hfl:=pP hF3;refine rIx (cE s) (.dp 1 0 (cE s)) rfl rfl (jH hs) rfl<|oR 2 rfl ?_;obtain⟨x,hx⟩:∃ y_,s[((aX c addr).2.getD 0)]?=some y_:=⟨_,aA omT⟩;have hxo:=hso.2 x (aB hx);have hxs:=SR hR hs hx;refine rIx (wyL x) (.dp 3 0 (wyL x)) rfl rfl (jH hx) rfl<|oR 3 rfl<|rE 25<|cSR<|oR 2 rfl<|rCi rfl (tC addr hline) ?_;have b1:addr % 16≤15:=by omega
  refine rW (vU (addr % 16)) rfl (okI (Wa hline))<|rW (vN (addr % 16)) rfl (okI (bU b1 rfl))<|oR 1 rfl<|rE 31<|bK<|cSR<|oR 1 rfl<|rV (vB (x.data.toList==(⟨#[]⟩:ByteArray).toList)) rfl<|oR 1 rfl<|gN rfl<|gBS (x:=vN bytes.size) rfl id rfl<|gN rfl ?_;have b2:16 - (addr % 16)≤16:=aL (jT _ _) (aC 16);refine gBS (x:=vN (16 - (addr % 16))) rfl id (okI (CZ omT (aC 16) rfl))<|gBS (x:=vB (decide (bytes.size>(16 - (addr % 16))))) rfl hsT (okB (gtN _ _))<|cS rfl rfl rfl (by simp)<|rE 40<|aV rfl (λ h2=>?_) (λ h2=>?_)
  ·have hq:(x.data.size=0∨bytes.size>16 - addr % 16):=by have z:=h2;rw[yZ]at z;simp only[cOr,dH,aS,dW,lN]at z;omega
   refine cSR<|oR 1 rfl<|rSt rfl<|oR 1 rfl<|rE 43<|cO ?_;rw[wC bytes hF hse hx,if_pos omT];exact fT rfl rfl
  ·have hq: ¬ (x.data.size=0∨bytes.size>16 - addr % 16):=by have z:=h2;rw[yZ]at z;simp only[cOr,dH,aS,dW,lN]at z;omega
   have hx16:x.data.size=16:=by omega
   have hb16:bytes.size≤16 - addr % 16:=by omega
   refine bB<|cSR<|oR 3 rfl<|rIx (cE s) (.dp 1 0 (cE s)) rfl rfl (jH hs) rfl<|oR 2 rfl<|fR _ rfl rfl rfl ((Uz s ((aX c addr).2.getD 0) false omT omT hso.2).frame0 _ _ rfl) ?_;rintro _ _ ⟨rfl,rfl⟩;refine oR 1 rfl<|rE 48<|cSR<|oR 3 rfl<|nW (.v (.string (x.data.extract 0 (addr % 16)))) rfl rfl (by refine⟨?_,?_,?_⟩<;>(first|exact aF _|decide|(apply Ff.2;exact omT)))<|oR 1 rfl<|nW (.v (.string ((x.data.extract 0 (addr % 16))++bytes))) rfl rfl (by show (_:Int)≤9223372036854775807;simp[gG,cY];omega)<|oR 3 rfl<|rV (vN bytes.size) rfl ?_;have b3:(addr % 16)+bytes.size≤31:=aG b1 (show bytes.size≤16 by omega);refine rW (vN ((addr % 16)+bytes.size)) rfl (okI (bU b3 rfl))<|nW (.v (.string (x.data.extract ((addr % 16)+bytes.size) x.data.size))) rfl rfl (by refine⟨?_,?_,?_⟩<;>(first|exact aF _|decide|(apply Ff.2;exact omT)))<|nW (.v (.string (((x.data.extract 0 (addr % 16))++bytes)++(x.data.extract ((addr % 16)+bytes.size) x.data.size)))) rfl rfl (by show (_:Int)≤9223372036854775807;simp[gG,cY];omega)<|nW (.ptr2 46 (0+0) 0) rfl rfl (⟨by decide,Fe.2 (by show 0<s.length;exact omT)⟩)<|oR 1 rfl ?_;obtain⟨w,hw⟩:∃ y_,(eR s ((aX c addr).2.getD 0))[0]?=some y_:=⟨_,aA omT⟩;have hwo:=(pQ hso.2) w (aB hw);have hxw:w=x:=Option.some.inj (hw.symm.trans (PZ hx));have hx1:((eR s ((aX c addr).2.getD 0)).set 0 (⟨w.line,w.dirty,((x.data.extract 0 (addr % 16))++bytes)++(x.data.extract ((addr % 16)+bytes.size) x.data.size)⟩:Wy))[0]?=some (⟨w.line,w.dirty,((x.data.extract 0 (addr % 16))++bytes)++(x.data.extract ((addr % 16)+bytes.size) x.data.size)⟩:Wy):=aW omT;refine oS (wyL w) (h':=upd _ 46 (some (.arr (((eR s ((aX c addr).2.getD 0)).set 0 (⟨w.line,w.dirty,((x.data.extract 0 (addr % 16))++bytes)++(x.data.extract ((addr % 16)+bytes.size) x.data.size)⟩:Wy)).map wyL) 3))) rfl rfl rfl (⟨by decide,IB (jH hw)⟩) (vE (f:=wyL) (l:=eR s ((aX c addr).2.getD 0)) (k:=0) (x:=(⟨w.line,w.dirty,((x.data.extract 0 (addr % 16))++bytes)++(x.data.extract ((addr % 16)+bytes.size) x.data.size)⟩:Wy)))<|rE 64<|Jb<|cRg<|oR 1 rfl<|nW (.ptr2 46 (0+0) 0) rfl rfl (⟨by decide,Fe.2 (by show 0<s.length;exact omT)⟩)<|oR 1 rfl ?_;have hx2:(((eR s ((aX c addr).2.getD 0)).set 0 (⟨w.line,w.dirty,((x.data.extract 0 (addr % 16))++bytes)++(x.data.extract ((addr % 16)+bytes.size) x.data.size)⟩:Wy)).set 0 (⟨w.line,true,((x.data.extract 0 (addr % 16))++bytes)++(x.data.extract ((addr % 16)+bytes.size) x.data.size)⟩:Wy))[0]?=some (⟨w.line,true,((x.data.extract 0 (addr % 16))++bytes)++(x.data.extract ((addr % 16)+bytes.size) x.data.size)⟩:Wy):=aW omT
   refine oS (wyL (⟨w.line,w.dirty,((x.data.extract 0 (addr % 16))++bytes)++(x.data.extract ((addr % 16)+bytes.size) x.data.size)⟩:Wy)) (h':=upd _ 46 (some (.arr ((((eR s ((aX c addr).2.getD 0)).set 0 (⟨w.line,w.dirty,((x.data.extract 0 (addr % 16))++bytes)++(x.data.extract ((addr % 16)+bytes.size) x.data.size)⟩:Wy)).set 0 (⟨w.line,true,((x.data.extract 0 (addr % 16))++bytes)++(x.data.extract ((addr % 16)+bytes.size) x.data.size)⟩:Wy)).map wyL) 3))) rfl rfl rfl (⟨by decide,IB (jH hx1)⟩) (vE (f:=wyL) (l:=(eR s ((aX c addr).2.getD 0)).set 0 (⟨w.line,w.dirty,((x.data.extract 0 (addr % 16))++bytes)++(x.data.extract ((addr % 16)+bytes.size) x.data.size)⟩:Wy)) (k:=0) (x:=(⟨w.line,true,((x.data.extract 0 (addr % 16))++bytes)++(x.data.extract ((addr % 16)+bytes.size) x.data.size)⟩:Wy)))<|rE 68<| .mk _ (.step (some (46,3,(((eR s ((aX c addr).2.getD 0)).set 0 (⟨w.line,w.dirty,((x.data.extract 0 (addr % 16))++bytes)++(x.data.extract ((addr % 16)+bytes.size) x.data.size)⟩:Wy)).set 0 (⟨w.line,true,((x.data.extract 0 (addr % 16))++bytes)++(x.data.extract ((addr % 16)+bytes.size) x.data.size)⟩:Wy)).map wyL)) (Ghost.of_lists (l:=[(3,.ptr 0 0),(6,.ptr 1 0),(7,vB false),(8,vN ((aX c addr).1)),(22,vB (!((aX c addr).2.isSome))),(46,vB (dE (x.data.toList==(⟨#[]⟩:ByteArray).toList) true (decide (bytes.size>(16 - (addr % 16)))))),(13,.sl 3 ((((eR s ((aX c addr).2.getD 0)).set 0 (⟨w.line,w.dirty,((x.data.extract 0 (addr % 16))++bytes)++(x.data.extract ((addr % 16)+bytes.size) x.data.size)⟩:Wy)).set 0 (⟨w.line,true,((x.data.extract 0 (addr % 16))++bytes)++(x.data.extract ((addr % 16)+bytes.size) x.data.size)⟩:Wy)).map wyL) false)]) (hp:=[(0,.box [vI c.ways,.sl 1 (c.sets.map cE) false]),(1,.box [vI 0,.sl 0 ([]) true])]) rfl rfT rbT) (.refl _))<|cSR<|oR 3 rfl<|rCi rfl (La c ((aX c addr).1) (((eR s ((aX c addr).2.getD 0)).set 0 (⟨w.line,w.dirty,((x.data.extract 0 (addr % 16))++bytes)++(x.data.extract ((addr % 16)+bytes.size) x.data.size)⟩:Wy)).set 0 (⟨w.line,true,((x.data.extract 0 (addr % 16))++bytes)++(x.data.extract ((addr % 16)+bytes.size) x.data.size)⟩:Wy)) hok hF2 omT (by first|exact omT|(rw[pP omT];exact omT)) (mem_set (P:=Wy.ok) (mem_set (P:=Wy.ok) (pQ hso.2) ⟨hwo.line⟩) ⟨hwo.line⟩))<|rSt rfl<|oR 1 rfl<|rE 74<|cO ?_;subst hxw;rw[wC bytes hF hse hx,if_neg omT,Ex hw];exact fT rfl (by first|rfl|(simp only[nD];rfl))
theorem NI{α:Type}{f:α→α}{l:List α}{k:Nat}{x:α}(h:l[k]?=some x):l.modify k f=l.set k (f x):=by
 apply dL;intro i;rw[oD,qF];obtain⟨hk,rfl⟩:=DK.1 h;by_cases e:k=i
 ·subst e;simp[hk]
 ·simp[e]
theorem Ag{c:Ca}{line:Nat}{s:List Wy}(hF:(aX c line).2.isSome=true)(hs:kD c (aX c line).1=s):mW c line=nL c (aX c line).1 (s.modify ((aX c line).2.getD 0) λ w=>{w with dirty:=false}):=by
 unfold mW;obtain⟨j,hj⟩:=Fg.1 hF;have e:aX c line=((aX c line).1,some j):=by rw[←hj]
 rw[hj,e];simp only[hs];rfl
theorem Ah{c:Ca}{line:Nat}(hF:(aX c line).2.isSome=false):mW c line=c:=by
 unfold mW;have hj:(aX c line).2=none:=by simpa using hF
 have e:aX c line=((aX c line).1,none):=by rw[←hj]
 rw[e]
theorem HP(c:Ca)(line:Nat)(hok:c.ok)(hline:line≤4294967295):bT C0 122 [.agg (caL c false),vU line] (.agg (caL (mW c line) false)):=by
 refine dc1 (bT.intro c1Ok Tryz.func122 rfl rfl (by kernel_rfl) rfl ?_);have hFb:=AC c line;refine cSR<|rAl 0 rfl rfl<|rAl 1 rfl rfl<|rE 2<|cSR<|oR 2 rfl<|rCi rfl (Af c line hok hline)<|oR 7 rfl<|rE 12<|bK<|cSR<|oR 2 rfl<|rE 14<|aV rfl (λ h1=>?_) (λ h1=>?_)
 ·have hF:(aX c line).2.isSome=false:=by simpa using h1
  refine cSR<|oR 1 rfl<|rSt rfl<|rE 16<|cO ?_;rw[Ah hF];exact eQ rfl ⟨trivial,trivial,trivial⟩ rfl rfl
 ·have hF:(aX c line).2.isSome=true:=by simpa using h1
  obtain⟨hR,hF1,hF2,hF3⟩:=jX hF;obtain⟨hs0,hs4,hw2,hw1,hsw⟩:=jP hR;refine bB<|cSR<|oR 3 rfl ?_;obtain⟨s,hs⟩:∃ y_,c.sets[((aX c line).1)]?=some y_:=⟨_,aA omT⟩;have hso:=hok.set s (aB hs);have hse:=rO hs;rw[hse]at hF3;have hsl:s.length≤2:=by have:=hsw s (aB hs);omega
  have hfl:=pP hF3;refine rIx (cE s) (.dp 1 0 (cE s)) rfl rfl (jH hs) rfl<|oR 1 rfl<|rW (vN s.length) rfl (cG wyL s)<|rFx (x:=.osl 20 0 s.length false) (h':=upd _ 20 (some (.arr ((List.replicate s.length pD).map wyL) 3))) rfl rfl (Qc (gM (f:=wyL) (a:=pD)).symm) (⟨aF _,Ff.2 omT,by show ((s.length:Nat):Int)≤1000000;omega⟩)<|oR 1 rfl<|rE 22<|cSR<|oR 4 rfl<|rIx (cE s) (.dp 1 0 (cE s)) rfl rfl (jH hs) rfl<|oR 1 rfl<|rFx (x:=vI ((min ((s.map wyL).length) (s.length):Nat):Int)) (h':=upd _ 20 (some (.arr (s.map wyL) 3))) rfl rfl (Ic (DD wyL ((List.replicate s.length pD).map wyL) s omT omT)) (⟨by exact omT,trivial⟩)<|rE 29<|Jb<|cRg<|oR 2 rfl<|nW (.ptr2 20 (0+((aX c line).2.getD 0)) 0) rfl rfl (⟨aF _,Fe.2 (by show ((aX c line).2.getD 0)<s.length;exact omT)⟩)<|oR 1 rfl ?_;obtain⟨x,hx⟩:∃ y_,s[((aX c line).2.getD 0)]?=some y_:=⟨_,aA omT⟩;have hxo:=hso.2 x (aB hx);have hx1:(s.set ((aX c line).2.getD 0) (⟨x.line,false,x.data⟩:Wy))[((aX c line).2.getD 0)]?=some (⟨x.line,false,x.data⟩:Wy):=aW omT;refine oS (wyL x) (h':=upd _ 20 (some (.arr ((s.set ((aX c line).2.getD 0) (⟨x.line,false,x.data⟩:Wy)).map wyL) 3))) rfl rfl rfl (⟨aF _,IB (jH hx)⟩) (vE (f:=wyL) (l:=s) (k:=((aX c line).2.getD 0)) (x:=(⟨x.line,false,x.data⟩:Wy)))<|rE 34<| .mk _ (.step (some (20,3,(s.set ((aX c line).2.getD 0) (⟨x.line,false,x.data⟩:Wy)).map wyL)) (Ghost.of_lists (l:=[(2,.ptr 0 0),(4,.ptr 1 0),(5,vN ((aX c line).1)),(17,vB (!((aX c line).2.isSome))),(8,.sl 3 ((s.set ((aX c line).2.getD 0) (⟨x.line,false,x.data⟩:Wy)).map wyL) false)]) (hp:=[(0,.box [vI c.ways,.sl 1 (c.sets.map cE) false]),(1,.box [vI 0,.sl 0 ([]) true])]) rfl rfT rbT) (.refl _))<|cSR<|oR 3 rfl<|rCi rfl (La c ((aX c line).1) (s.set ((aX c line).2.getD 0) (⟨x.line,false,x.data⟩:Wy)) hok hF2 omT omT (mem_set (P:=Wy.ok) hso.2 ⟨hxo.line⟩))<|rSt rfl<|rE 39<|cO ?_;rw[Ag hF hse,NI hx];exact eQ rfl ⟨trivial,trivial,trivial⟩ rfl rfl
section
variable {α:Type}{p:α→Bool}
theorem Qa{l:List α}{k:Nat}{x:α}(hx:l[k]?=some x)(hn:p x=false)(h:(l.take k).find? p=none):(l.take (k+1)).find? p=none:=by
 rw[bV,hx,jI,h];simp[hn]
theorem Qb{l:List α}{k:Nat}{x:α}(hx:l[k]?=some x)(hp:p x=true)(h:(l.take k).find? p=none):l.find? p=some x:=by
 have e:l=l.take (k+1)++l.drop (k+1):=(gF _ _).symm;rw[e,jI,bV,hx,jI,h];simp[hp]
theorem ST{l:List α}{k:Nat}(hk:l.length≤k)(h:(l.take k).find? p=none):l.find? p=none:=by rwa [aM hk]at h
theorem Wb{L:List (List α)}{k:Nat}{s:List α}(hs:L[k]?=some s)(hn:s.find? p=none)(h:(L.take k).flatten.find? p=none):(L.take (k+1)).flatten.find? p=none:=by
 rw[bV,hs,oO,jI,h];simpa using hn
theorem Wc{L:List (List α)}{k:Nat}{s:List α}{x:α}(hs:L[k]?=some s)(hn:s.find? p=some x)(h:(L.take k).flatten.find? p=none):L.flatten.find? p=some x:=by
 have e:L=L.take (k+1)++L.drop (k+1):=(gF _ _).symm;rw[e,oO,jI,bV,hs,oO,jI,h];simp[hn]
end
abbrev drA(o:Option Wy):AV:=.tup [.agg (wyL (o.getD pD)),vB o.isSome]
theorem HQ(c:Ca)(hok:c.ok):bT C0 121 [.agg (caL c false)] (drA (cM c)):=by
 refine bT.intro c0Ok Tryz.func121 rfl rfl (by kernel_rfl) rfl<|cSR<|rAl 0 rfl rfl<|rAl 1 rfl rfl<|oR 1 rfl<|rE 3<|bK<|cSR<|oR 1 rfl<|rCi rfl (BZ c false hok)<|oR 1 rfl<|rE 6<|aV rfl (λ h1=>?_) (λ h1=>?_)
 ·have hR:iW c=false:=by simpa using h1
  refine cSR<|rV (.agg [.v (.int .u32 0),vB false,.v (.string (⟨#[]⟩:ByteArray))]) rfl<|rSt rfl<|oR 1 rfl<|rE 9<|cO ?_;rw[show cM c=none from by unfold cM;rw[if_neg (by rw[hR];decide)]];exact fT rfl rfl
 ·have hR:iW c=true:=by simpa using h1
  obtain⟨hs0,hs4,hw2,hw1,hsw⟩:=jP hR;refine bB<|bK<|cSR<|oR 2 rfl<|rW (vN c.sets.length) rfl (cG cE c.sets)<|oR 1 rfl<|rE 10<|bL<|oE (κ:=Nat) (λ k=>⟨slotsF [(2,.ptr 1 0),(10,vB (!(iW c))),(13,.sl 1 (c.sets.map cE) false),(14,vN c.sets.length),(15,vN k)],heapF [(0,.box [vI c.ways,.sl 1 (c.sets.map cE) false]),(1,.box [.v (.int .u32 0),vB false,.v (.string (⟨#[]⟩:ByteArray))])],10⟩) (λ k=>k≤c.sets.length∧(c.sets.take k).flatten.find? (·.dirty)=none) (λ k=>c.sets.length - k) 0 (λ s=>s) (Weak.of_lists (λ s=>s) wT wH rfl) (⟨aD _,rfl⟩) ?_;intro k hk;have hkn:k≤c.sets.length:=hk.1;have hkB:k≤1000000:=by omega
  refine cSR<|rW (vB (decide (k<c.sets.length))) rfl (okB (ltN _ _))<|rE 11<|bK<|aV rfl (λ h2=>?_) (λ h2=>?_)
  ·have h2p:=of_decide_eq_true h2;refine bB<|bK<|bL<|cSR ?_;obtain⟨s,hs⟩:∃ y_,c.sets[k]?=some y_:=⟨_,aA omT⟩;have hso:=hok.set s (aB hs);have hsl:s.length≤2:=by have:=hsw s (aB hs);omega
   refine rIx (cE s) (.dp 1 0 (cE s)) rfl rfl (jH hs) rfl<|oR 2 rfl<|rE 14<|cSR<|oR 1 rfl<|rW (vN s.length) rfl (cG wyL s)<|oR 1 rfl<|rE 17<|bL<|oE (κ:=Nat) (λ j=>⟨slotsF [(2,.ptr 1 0),(10,vB (!(iW c))),(13,.sl 1 (c.sets.map cE) false),(14,vN c.sets.length),(15,vN k),(16,vB (decide (k<c.sets.length))),(17,.dp 1 0 (cE s)),(18,.sl 3 (s.map wyL) false),(5,.sl 3 (s.map wyL) false),(19,.sl 3 (s.map wyL) false),(20,vN s.length),(21,vN j)],heapF [(0,.box [vI c.ways,.sl 1 (c.sets.map cE) false]),(1,.box [.v (.int .u32 0),vB false,.v (.string (⟨#[]⟩:ByteArray))])],17⟩) (λ j=>j≤s.length∧(s.take j).find? (·.dirty)=none) (λ j=>s.length - j) 0 (λ s=>s) (Weak.of_lists (λ s=>s) wT wH rfl) (⟨aD _,rfl⟩) ?_;intro j hj;have hjn:j≤s.length:=hj.1;have hjB:j≤1000000:=by omega
   refine cSR<|rW (vB (decide (j<s.length))) rfl (okB (ltN _ _))<|rE 18<|bK<|aV rfl (λ h3=>?_) (λ h3=>?_)
   ·have h3p:=of_decide_eq_true h3;refine bB<|bK<|bL<|cSR ?_;obtain⟨x,hx⟩:∃ y_,s[j]?=some y_:=⟨_,aA omT⟩;have hxo:=hso.2 x (aB hx);refine rIx (wyL x) (.dp 3 0 (wyL x)) rfl rfl (jH hx) rfl<|oR 1 rfl<|rAl 20 rfl rfl<|rSt rfl<|rE 22<|cSR<|oR 2 rfl<|rE 24<|aV rfl (λ h4=>?_) (λ h4=>?_)
    ·refine cSR<|oR 1 rfl<|rSt rfl<|oR 1 rfl<|rE 27<|cO ?_;rw[show cM c=some x from by unfold cM;rw[if_pos hR];exact Wc hs (Qb hx h4 hj.2) hk.2];exact fT rfl rfl
    ·refine bB<|cRg ?_;have b1:j+1≤1000001:=aG hjB (aC 1);refine rW (vN (j+1)) rfl (okI (bU b1 rfl))<|oR 1 rfl<|rE 26 ?_;refine⟨j+1,λ s=>s,Weak.of_lists _ wT wH rfl,⟨by omega,Qa hx h4 hj.2⟩,by show s.length - (j+1)<s.length - j;omega⟩
   ·have h3p:=aE h3;refine eP<|cRg ?_;have b2:k+1≤1000001:=aG hkB (aC 1);refine rW (vN (k+1)) rfl (okI (bU b2 rfl))<|oR 1 rfl<|rE 20 ?_;refine⟨k+1,λ s=>s,Weak.of_lists _ wT wH rfl,⟨by omega,Wb hs (ST omT hj.2) hk.2⟩,by show c.sets.length - (k+1)<c.sets.length - k;omega⟩
  ·have h2p:=aE h2;refine eP<|cSR<|rV (.agg [.v (.int .u32 0),vB false,.v (.string (⟨#[]⟩:ByteArray))]) rfl<|rSt rfl<|oR 1 rfl<|rE 14<|cO ?_;rw[show cM c=none from by unfold cM;rw[if_pos hR];have z:=hk.2;rwa [aM omT]at z];exact fT rfl rfl
theorem CY(m:ByteArray)(p:Pt):(wR m p).size=m.size:=by
 unfold wR;split
 ·simp only[gG,cY];omega
 ·rfl
theorem fD(m:ByteArray)(l:List Pt):(mG m l).size=m.size:=by
 unfold mG
 induction l generalizing m with
 |nil=>rfl
 |cons p l ih=>rw[oV,ih,CY]
theorem Gn{m:ByteArray}{l:List Pt}{k:Nat}{x:Pt}(hx:l[k]?=some x):mG m (l.take (k+1))=wR (mG m (l.take k)) x:=by
 unfold mG;rw[bV,hx];simp
theorem VY(s:ByteArray):bY s=s.data.toList.map λ b=>[AV.v (.int .u8 (b.toNat:Int))]:=rfl
theorem SO(a b:ByteArray):(a++b).data.toList=a.data.toList++b.data.toList:=by simp
theorem SP(a:ByteArray)(i j:Nat):(a.extract i j).data.toList=(a.data.toList.take j).drop i:=by
 rw[ByteArray.data_extract,nY,List.extract_eq_take_drop,List.drop_take]
theorem PT{m:ByteArray}{p:Pt}{n:Nat}(h:p.addr<m.size)(hn:n=m.size - p.addr):(bY m).take (0+p.addr)++(bY p.data).take (min (bY p.data).length n)++(bY m).drop (0+p.addr+min (bY p.data).length n)=bY (wR m p):=by
 subst hn;unfold wR;rw[if_pos h,bR,yT];simp only[VY,SO,SP,eA,fU,lU,cH];have hl:(m.data.toList.map λ b=>[AV.v (.int .u8 (b.toNat:Int))]).length=m.size:=by rw[aJ];exact cW
 rw[←hl,dJ]
theorem NG{m:ByteArray}{p:Pt}(h: ¬ p.addr<m.size):wR m p=m:=if_neg h
theorem Mn(m:ByteArray)(n:Nat)(h:m.size≤n):iJ (List.take n (List.drop 0 (bY m)))=some m.data.toList:=by
 rw[cH,aM (by rw[yT];exact h)];exact rZ _
theorem PU(m:ByteArray)(l:List Pt)(ck:Bool)(hm:m.size≤1000000)(hl:l.length≤1000000)(ho:∀ x∈l,x.ok):bT C0 97 [.v (.string m),.sl 2 (l.map ptL) ck] (.v (.string (mG m l))):=by
 refine dc1 (bT.intro c1Ok Tryz.func97 rfl rfl (by kernel_rfl) rfl ?_);refine cSR<|oR 1 rfl<|rE 1<|cSR<|oR 1 rfl<|rFx (x:=.osl 2 0 m.size false) (h':=upd _ 2 (some (.arr (bY m) 1))) rfl rfl (rfl) ((by show m.size≤1000000;exact hm))<|oR 1 rfl<|rE 4<|bK<|cSR<|oR 1 rfl<|rW (vN l.length) rfl (cG ptL l)<|oR 1 rfl<|rE 7<|bL<|oE (κ:=Nat) (λ k=>⟨slotsF [(4,.v (.string (⟨#[]⟩:ByteArray))),(5,.osl 2 0 m.size false),(10,.sl 2 (l.map ptL) ck),(11,vN l.length),(12,vN k)],heapF [(2,.arr (bY (mG m (l.take k))) 1)],7⟩) (λ k=>k≤l.length) (λ k=>l.length - k) 0 (λ s=>s) (Weak.of_lists (λ s=>s) wT wH rfl) (aD _) ?_;intro k hk;have hkn:k≤l.length:=hk;have hkB:k≤1000000:=by omega
 refine cSR<|rW (vB (decide (k<l.length))) rfl (okB (ltN _ _))<|rE 8<|bK<|aV rfl (λ h1=>?_) (λ h1=>?_)
 ·have h1p:=of_decide_eq_true h1;refine bB<|bK<|bL<|cSR ?_;obtain⟨x,hx⟩:∃ y_,l[k]?=some y_:=⟨_,aA omT⟩;have hxo:=ho x (aB hx);refine rIx (ptL x) (.dp 2 0 (ptL x)) rfl rfl (jH hx) rfl<|oR 1 rfl<|rAl 10 rfl rfl<|rSt rfl<|rE 12<|cSR<|oR 2 rfl<|rW (.v (.int .u64 ((x.addr:Nat):Int))) rfl (okI (IG hxo.addr rfl))<|oR 1 rfl<|rV (vN m.size) rfl<|rW (.v (.int .u64 ((m.size:Nat):Int))) rfl (okI (IG hm rfl))<|rW (vB (decide (x.addr<m.size))) rfl (okB (ltN _ _))<|rE 19<|aV rfl (λ h2=>?_) (λ h2=>?_)
  ·have h2p:=of_decide_eq_true h2;refine cRg<|oR 3 rfl<|nW (.osl 2 (0+x.addr) (m.size - x.addr) false) rfl (Lc (by first|rfl|omega) (by simp only[Option.getD];omega)) slT<|oR 2 rfl ?_;have hlt:x.addr<(mG m (l.take k)).size:=by rw[fD];omega
   refine rFx (x:=vI ((min (bY x.data).length (m.size - x.addr):Nat):Int)) (h':=upd _ 2 (some (.arr (bY (mG m (l.take (k+1)))) 1))) rfl rfl (Ic (by rw[Gn hx];exact PT hlt (by rw[fD]))) (⟨by show 0+x.addr+(m.size - x.addr)≤(bY (mG m (l.take k))).length;rw[yT,fD];omega,trivial⟩)<|rE 26<|cRg ?_;have b1:k+1≤1000001:=aG hkB (aC 1);refine rW (vN (k+1)) rfl (okI (bU b1 rfl))<|oR 1 rfl<|rE 28 ?_;refine⟨k+1,λ s=>s,Weak.of_lists _ wT wH rfl,by omega,by show l.length - (k+1)<l.length - k;omega⟩
  ·have h2p:=aE h2;refine bB<|cRg ?_;have b2:k+1≤1000001:=aG hkB (aC 1);refine rW (vN (k+1)) rfl (okI (bU b2 rfl))<|oR 1 rfl<|rE 21 ?_;refine⟨k+1,λ s=>s,Weak.of_lists _ wT ⟨⟨rfl,(congrArg (λ z=>some (Blk.arr (bY z) 1)) (show mG m (l.take k)=mG m (l.take (k+1))from by rw[Gn hx,NG (by rw[fD];omega)])),rfl⟩,trivial⟩ rfl,by omega,by show l.length - (k+1)<l.length - k;omega⟩
 ·have h1p:=aE h1;refine eP<|cSR<|oR 1 rfl<|XB ((mG m (l.take k)).data.toList) rfl rfl rfl ((by show 0+m.size≤(bY (mG m (l.take k))).length;rw[yT,fD];omega)) (Mn _ _ (by rw[fD];exact aC _))<|oR 1 rfl<|rE 11<|cO ?_;exact fT rfl (by rw[aM (show l.length≤k by omega)];rfl)
theorem qY{q:List Req}{k:Nat}{x:Req}(hx:q[k]?=some x)(h:x.kind=4):bX (q.take k)++[⟨x.line,x.data⟩]=bX (q.take (k+1)):=by
 unfold bX;rw[bV,hx];simp[iT,h]
theorem xH{q:List Req}{k:Nat}{x:Req}(hx:q[k]?=some x)(h: ¬ x.kind=4):bX (q.take k)=bX (q.take (k+1)):=by
 unfold bX;rw[bV,hx];simp[iT,h]
theorem vC(q:List Req):(bX q).length≤q.length:=by unfold bX;rw[aJ];exact List.length_filter_le _ _
theorem Ab{q:List Req}(h:∀ x∈q,x.ok):∀ x∈bX q,x.ok:=λ x hx=>by
 unfold bX at hx;obtain⟨y,hy,rfl⟩:=sF.1 hx;exact⟨(h y (List.mem_filter.1 hy).1).line⟩
theorem Mo(m:ByteArray)(hm:m.size≤1000000):bT C0 97 [.v (.string m),.sl 0 [] true] (.v (.string m)):=by
 refine dc1 (bT.intro c1Ok Tryz.func97 rfl rfl (by kernel_rfl) rfl ?_);refine cSR<|oR 1 rfl<|rE 1<|cSR<|oR 1 rfl<|rFx (x:=.osl 2 0 m.size false) (h':=upd _ 2 (some (.arr (bY m) 1))) rfl rfl (rfl) ((by show m.size≤1000000;exact hm))<|oR 1 rfl<|rE 4<|bK<|cSR<|oR 1 rfl<|rV (vI 0) rfl<|oR 1 rfl<|rE 7<|bL<|oE (κ:=Unit) (λ u_=>⟨slotsF [(5,.osl 2 0 m.size false),(10,.sl 0 ([]) true),(11,vI 0),(12,vI 0)],heapF [(2,.arr (bY m) 1)],7⟩) (λ u_=>True) (λ u_=>0) () (λ s=>s) (Weak.of_lists (λ s=>s) wT wH rfl) trivial ?_;intro u_ _;refine cSR<|rV (vB (decide (0<0))) rfl<|rE 8<|bK<|aV rfl (λ h1=>by simp at h1) (λ _=>?_);refine eP<|cSR<|oR 1 rfl<|XB (m.data.toList) rfl rfl rfl ((by show 0+m.size≤(bY m).length;rw[yT];omega)) (Mn _ _ (aC _))<|oR 1 rfl<|rE 11<|cO ?_;exact fT rfl rfl
theorem PV(q:List Req)(m:ByteArray)(ck:Bool)(hm:m.size≤1000000)(hq:q.length≤900000)(ho:∀ x∈q,x.ok):bT C0 200 [.sl 4 (q.map rqL) ck,.v (.string m)] (.v (.string (fW q m))):=by
 refine dc1 (bT.intro c1Ok Tryz.func200 rfl rfl (by kernel_rfl) rfl ?_);refine cSR<|oR 1 rfl<|rE 1<|cSR<|oR 1 rfl<|rE 2<|bK<|cSR<|oR 1 rfl<|rW (vN q.length) rfl (cG rqL q)<|oR 1 rfl<|rE 5<|bL<|oE (κ:=Nat×Bool) (λ z_=>match z_ with|(k,false)=>⟨slotsF [(1,.v (.string m)),(4,.v (.string (⟨#[]⟩:ByteArray))),(8,.sl 4 (q.map rqL) ck),(9,vN q.length),(10,vN k),(5,.sl 0 ([]) true)],heapF [],6⟩|(k,true)=>⟨slotsF [(1,.v (.string m)),(4,.v (.string (⟨#[]⟩:ByteArray))),(8,.sl 4 (q.map rqL) ck),(9,vN q.length),(10,vN k),(5,.osl 5 0 ((bX (q.take k)).length) false)],heapF [(5,.arr ((bX (q.take k)).map ptL) 2)],6⟩) (λ z_=>match z_ with|(k,false)=>(k≤q.length∧bX (q.take k)=[])|(k,true)=>(k≤q.length)) (λ z_=>q.length - z_.1) (0,false) (λ s=>s) (Weak.of_lists (λ s=>s) wT trivial rfl) (⟨aD _,(show bX (q.take 0)=[]from rfl)⟩) ?_;intro z_ hk;obtain⟨k,b_⟩:=z_;cases b_
 ·have hk_:=hk;have hnn:k≤q.length:=hk_.1;have hkB:k≤1000000:=by omega
  have hNk:bX (q.take k)=[]:=hk_.2;refine cSR<|rW (vB (decide (k<q.length))) rfl (okB (ltN _ _))<|rE 7<|bK<|aV rfl (λ h1=>?_) (λ h1=>?_)
  ·have h1p:=of_decide_eq_true h1;refine bB<|bK<|bL<|cSR ?_;obtain⟨x,hx⟩:∃ y_,q[k]?=some y_:=⟨_,aA omT⟩;have hxo:=ho x (aB hx);refine rIx (rqL x) (.dp 4 0 (rqL x)) rfl rfl (jH hx) rfl<|oR 1 rfl<|rAl 9 rfl rfl<|rSt rfl<|rE 11<|cSR<|oR 2 rfl<|rV (vB (x.kind==4)) rfl<|rE 14<|aV rfl (λ h2=>?_) (λ h2=>?_)
   ·have h2p:=mC h2;refine cRg<|oR 5 rfl<|rV (.agg [vU x.line,.v (.string x.data)]) rfl<|rV (.sl 2 ([[vU x.line,.v (.string x.data)]]) true) rfl<|rFx (x:=.osl 21 0 1 false) (h':=upd _ 21 (some (.arr (([(⟨x.line,x.data⟩:Pt)]).map ptL) 2))) rfl rfl (Ld omT) (⟨rfl,by exact omT,by exact omT,trivial⟩)<|oR 1 rfl<|rE 23<|cRg ?_;have b1:k+1≤1000001:=aG hkB (aC 1);refine rW (vN (k+1)) rfl (okI (bU b1 rfl))<|oR 1 rfl<|rE 25 ?_;refine⟨(k+1,true),λ i=>match i with|5=>21|i=>i,Weak.of_lists _ ⟨⟨rfl,rfl⟩,⟨rfl,rfl⟩,⟨rfl,rfl⟩,⟨rfl,rfl⟩,⟨rfl,rfl⟩,⟨(show AV.osl 21 0 (1) false=AV.osl 21 0 (bX (q.take (k+1))).length false from by rw[←(show [(⟨x.line,x.data⟩:Pt)]=bX (q.take (k+1))from (by rw[←(qY hx h2p),hNk];rfl))];first|done|rfl|(congr 1<;>(first|exact omT|simp))),rfl⟩,trivial⟩ ⟨⟨rfl,(congrArg (λ z:List Pt=>some (Blk.arr (z.map ptL) 2)) (show [(⟨x.line,x.data⟩:Pt)]=bX (q.take (k+1))from (by rw[←(qY hx h2p),hNk];rfl))),rfl⟩,trivial⟩ rfl,by omega,by show q.length - (k+1)<q.length - k;omega⟩
   ·have h2p:=mD h2;refine bB<|cRg ?_;have b2:k+1≤1000001:=aG hkB (aC 1);refine rW (vN (k+1)) rfl (okI (bU b2 rfl))<|oR 1 rfl<|rE 16 ?_;refine⟨(k+1,false),λ i=>i,Weak.of_lists _ wT trivial rfl,⟨by omega,(by rw[←(xH hx h2p)];exact hNk)⟩,by show q.length - (k+1)<q.length - k;omega⟩
  ·have h1p:=aE h1;refine eP<|cSR<|oR 2 rfl<|rCi rfl (Mo m (hm))<|oR 1 rfl<|rE 11<|cO ?_;have hW:fW q m=mG m (bX (q.take k)):=by unfold fW;rw[aM omT]
   rw[hW,hNk];exact fT rfl rfl
 ·have hk_:=hk;have hnn:k≤q.length:=hk_;have hkB:k≤1000000:=by omega
  have habk:(bX (q.take k)).length≤900000:=(by have:=vC (q.take k);rw[aN]at this;omega);refine cSR<|rW (vB (decide (k<q.length))) rfl (okB (ltN _ _))<|rE 7<|bK<|aV rfl (λ h3=>?_) (λ h3=>?_)
  ·have h3p:=of_decide_eq_true h3;refine bB<|bK<|bL<|cSR ?_;obtain⟨x,hx⟩:∃ y_,q[k]?=some y_:=⟨_,aA omT⟩;have hxo:=ho x (aB hx);refine rIx (rqL x) (.dp 4 0 (rqL x)) rfl rfl (jH hx) rfl<|oR 1 rfl<|rAl 9 rfl rfl<|rSt rfl<|rE 11<|cSR<|oR 2 rfl<|rV (vB (x.kind==4)) rfl<|rE 14<|aV rfl (λ h4=>?_) (λ h4=>?_)
   ·have h4p:=mC h4;refine cRg<|oR 5 rfl<|rV (.agg [vU x.line,.v (.string x.data)]) rfl<|rV (.sl 2 ([[vU x.line,.v (.string x.data)]]) true) rfl<|rFx (x:=.osl 21 0 ((bX (q.take k)).length+1) false) (h':=upd (upd _ 5 none) 21 (some (.arr (((bX (q.take k))++([(⟨x.line,x.data⟩:Pt)])).map ptL) 2))) rfl rfl (gT ptL (bX (q.take k)) ([(⟨x.line,x.data⟩:Pt)]) omT omT) (⟨by exact omT,by exact omT,trivial⟩)<|oR 1 rfl<|rE 23<|cRg ?_;have b3:k+1≤1000001:=aG hkB (aC 1);refine rW (vN (k+1)) rfl (okI (bU b3 rfl))<|oR 1 rfl<|rE 25 ?_;refine⟨(k+1,true),λ i=>match i with|5=>21|i=>i,Weak.of_lists _ ⟨⟨rfl,rfl⟩,⟨rfl,rfl⟩,⟨rfl,rfl⟩,⟨rfl,rfl⟩,⟨rfl,rfl⟩,⟨(show AV.osl 21 0 ((bX (q.take k)).length+1) false=AV.osl 21 0 (bX (q.take (k+1))).length false from by rw[←(show (bX (q.take k))++([(⟨x.line,x.data⟩:Pt)])=bX (q.take (k+1))from qY hx h4p)];first|done|rfl|(congr 1<;>(first|exact omT|simp))),rfl⟩,trivial⟩ ⟨⟨rfl,(congrArg (λ z:List Pt=>some (Blk.arr (z.map ptL) 2)) (show (bX (q.take k))++([(⟨x.line,x.data⟩:Pt)])=bX (q.take (k+1))from qY hx h4p)),rfl⟩,trivial⟩ rfl,by omega,by show q.length - (k+1)<q.length - k;omega⟩
   ·have h4p:=mD h4;refine bB<|cRg ?_;have b4:k+1≤1000001:=aG hkB (aC 1);refine rW (vN (k+1)) rfl (okI (bU b4 rfl))<|oR 1 rfl<|rE 16 ?_;refine⟨(k+1,true),λ i=>i,Weak.of_lists _ ⟨⟨rfl,rfl⟩,⟨rfl,rfl⟩,⟨rfl,rfl⟩,⟨rfl,rfl⟩,⟨rfl,rfl⟩,⟨(congrArg (λ z:List Pt=>AV.osl 5 0 z.length false) (xH hx h4p)),rfl⟩,trivial⟩ ⟨⟨rfl,(congrArg (λ z:List Pt=>some (Blk.arr (z.map ptL) 2)) (xH hx h4p)),rfl⟩,trivial⟩ rfl,by omega,by show q.length - (k+1)<q.length - k;omega⟩
  ·have h3p:=aE h3;refine eP<|cSR<|oR 2 rfl<|rCl (x:=.v (.string (mG m (bX (q.take k))))) rfl (.inr ⟨rfl,⟨trivial,(by show 0+((bX (q.take k)).length)≤((bX (q.take k)).map ptL).length;exact omT),trivial⟩⟩) ((show bT C0 _ [_,.sl 2 (List.take ((bX (q.take k)).length) (List.drop 0 ((bX (q.take k)).map ptL))) false] _ from by rw[jQ ptL (bX (q.take k)) omT];exact PU m (bX (q.take k)) false (hm) (by have:=vC (q.take k);rw[aN]at this;omega) (Ab (yL ho))))<|oR 1 rfl<|rE 11<|cO ?_;have hW:fW q m=mG m (bX (q.take k)):=by unfold fW;rw[aM omT]
   rw[hW];exact fT rfl rfl
def VZ(w:Wy):Pt:=⟨w.line,w.data⟩
def dX(c:Ca)(k:Nat):List Pt:=(c.sets.take k).flatten.map VZ
def cT(c:Ca)(k:Nat)(s:List Wy)(j:Nat):List Pt:=dX c k++(s.take j).map VZ
theorem iY{c:Ca}{k j:Nat}{s:List Wy}{x:Wy}(hx:s[j]?=some x):cT c k s j++[⟨x.line,x.data⟩]=cT c k s (j+1):=by
 unfold cT;rw[bV,hx];simp[VZ]
theorem mS{c:Ca}{k j:Nat}{s:List Wy}(hs:c.sets[k]?=some s)(hj:s.length≤j):cT c k s j=dX c (k+1):=by
 unfold cT dX;rw[aM hj,bV,hs];simp
theorem sY(c:Ca)(k:Nat)(s:List Wy):dX c k=cT c k s 0:=by unfold cT;simp
theorem sZ{c:Ca}{k:Nat}(h:c.sets.length≤k):dX c k=iD c:=by unfold dX iD;rw[aM h];rfl
theorem Mp{α:Type}{B:Nat}:∀ (L:List (List α)),(∀ s∈L,s.length≤B)→L.flatten.length≤L.length * B
 |[],_=>by simp
 |s::L,h=>by
  have h1:=h s al_List_mem_cons_self;have h2:=Mp L λ t ht=>h t (bE _ ht);simp only[mM,aR,bJ,bZ,kP];omega
theorem BO{c:Ca}{k:Nat}(h4:c.sets.length≤4)(h2:∀ s∈c.sets,s.length≤2):(dX c k).length≤8:=by
 unfold dX;rw[aJ];have:=Mp (B:=2) (c.sets.take k) λ s hs=>h2 s (cK hs);rw[aN]at this;omega
theorem BP{c:Ca}{k j:Nat}{s:List Wy}(h4:c.sets.length≤4)(h2:∀ s∈c.sets,s.length≤2)(hs:s.length≤2):(cT c k s j).length≤10:=by
 unfold cT;have:=BO (k:=k) h4 h2;rw[aR,aJ,aN];omega
theorem Mq{c:Ca}(h:∀ s∈c.sets,∀ x∈s,x.ok)(k:Nat):∀ x∈dX c k,x.ok:=λ x hx=>by
 obtain⟨y,hy,rfl⟩:=sF.1 hx;obtain⟨s,hs,hy⟩:=List.mem_flatten.1 hy;exact⟨(h s (cK hs) y hy).line⟩
theorem Yd(c:Ca)(q:List Req)(m:ByteArray)(ck:Bool)(hok:c.ok)(hc4:c.sets.length≤4)(hc2:∀ s∈c.sets,s.length≤2)(hm:m.size≤1000000)(hq:q.length≤900000)(ho:∀ x∈q,x.ok):bT C0 198 [.agg (caL c false),.sl 4 (q.map rqL) ck,.v (.string m)] (.v (.string (Am c q m))):=by
 refine dc1 (bT.intro c1Ok Tryz.func198 rfl rfl (by kernel_rfl) rfl ?_);refine cSR<|rAl 0 rfl rfl<|oR 1 rfl<|rE 2<|cSR<|oR 1 rfl<|rE 3<|bK<|cSR<|oR 2 rfl<|rW (vN c.sets.length) rfl (cG cE c.sets)<|oR 1 rfl<|rE 7<|bL<|oE (κ:=Nat×Bool) (λ z_=>match z_ with|(k,false)=>⟨slotsF [(1,.sl 4 (q.map rqL) ck),(2,.v (.string m)),(6,.v (.string (⟨#[]⟩:ByteArray))),(13,.sl 1 (c.sets.map cE) false),(14,vN c.sets.length),(15,vN k),(7,.sl 0 ([]) true)],heapF [(0,.box [vI c.ways,.sl 1 (c.sets.map cE) false])],8⟩|(k,true)=>⟨slotsF [(1,.sl 4 (q.map rqL) ck),(2,.v (.string m)),(6,.v (.string (⟨#[]⟩:ByteArray))),(13,.sl 1 (c.sets.map cE) false),(14,vN c.sets.length),(15,vN k),(7,.osl 7 0 ((dX c k).length) false)],heapF [(0,.box [vI c.ways,.sl 1 (c.sets.map cE) false]),(7,.arr ((dX c k).map ptL) 2)],8⟩) (λ z_=>match z_ with|(k,false)=>(k≤c.sets.length∧dX c k=[])|(k,true)=>(k≤c.sets.length)) (λ z_=>c.sets.length - z_.1) (0,false) (λ s=>s) (Weak.of_lists (λ s=>s) wT wH rfl) (⟨aD _,(show dX c 0=[]from rfl)⟩) ?_;intro z_ hk;obtain⟨k,b_⟩:=z_;cases b_
 ·have hk_:=hk;have hnn:k≤c.sets.length:=hk_.1;have hkB:k≤1000000:=by omega
  have hNk:dX c k=[]:=hk_.2;refine cSR<|rW (vB (decide (k<c.sets.length))) rfl (okB (ltN _ _))<|rE 9<|bK<|aV rfl (λ h1=>?_) (λ h1=>?_)
  ·have h1p:=of_decide_eq_true h1;refine bB<|bK<|bL<|cSR ?_;obtain⟨s,hs⟩:∃ y_,c.sets[k]?=some y_:=⟨_,aA omT⟩;have hso:=hok.set s (aB hs);have hsl:s.length≤2:=hc2 s (aB hs);refine rIx (cE s) (.dp 1 0 (cE s)) rfl rfl (jH hs) rfl<|oR 2 rfl<|rE 12<|cSR<|oR 1 rfl<|rW (vN s.length) rfl (cG wyL s)<|oR 1 rfl<|rE 15<|bL<|oE (κ:=Nat×Bool) (λ z_=>match z_ with|(j,false)=>⟨slotsF [(1,.sl 4 (q.map rqL) ck),(2,.v (.string m)),(6,.v (.string (⟨#[]⟩:ByteArray))),(13,.sl 1 (c.sets.map cE) false),(14,vN c.sets.length),(15,vN k),(16,vB (decide (k<c.sets.length))),(17,.dp 1 0 (cE s)),(18,.sl 3 (s.map wyL) false),(9,.sl 3 (s.map wyL) false),(19,.sl 3 (s.map wyL) false),(20,vN s.length),(21,vN j),(7,.sl 0 ([]) true)],heapF [(0,.box [vI c.ways,.sl 1 (c.sets.map cE) false])],16⟩|(j,true)=>⟨slotsF [(1,.sl 4 (q.map rqL) ck),(2,.v (.string m)),(6,.v (.string (⟨#[]⟩:ByteArray))),(13,.sl 1 (c.sets.map cE) false),(14,vN c.sets.length),(15,vN k),(16,vB (decide (k<c.sets.length))),(17,.dp 1 0 (cE s)),(18,.sl 3 (s.map wyL) false),(9,.sl 3 (s.map wyL) false),(19,.sl 3 (s.map wyL) false),(20,vN s.length),(21,vN j),(7,.osl 15 0 ((cT c k s j).length) false)],heapF [(0,.box [vI c.ways,.sl 1 (c.sets.map cE) false]),(15,.arr ((cT c k s j).map ptL) 2)],16⟩) (λ z_=>match z_ with|(j,false)=>(j≤s.length∧cT c k s j=[])|(j,true)=>(j≤s.length)) (λ z_=>s.length - z_.1) (0,false) (λ s=>s) (Weak.of_lists (λ s=>s) wT wH rfl) (⟨aD _,(show cT c k s 0=[]from (sY c k s).symm.trans hNk)⟩) ?_;intro z_ hj;obtain⟨j,b_⟩:=z_;cases b_
   ·have hj_:=hj;have hnn:j≤s.length:=hj_.1;have hjB:j≤1000000:=by omega
    have hNj:cT c k s j=[]:=hj_.2;refine cSR<|rW (vB (decide (j<s.length))) rfl (okB (ltN _ _))<|rE 17<|bK<|aV rfl (λ h2=>?_) (λ h2=>?_)
    ·have h2p:=of_decide_eq_true h2;refine bB<|bK<|bL<|cSR ?_;obtain⟨x,hx⟩:∃ y_,s[j]?=some y_:=⟨_,aA omT⟩;have hxo:=hso.2 x (aB hx);refine rIx (wyL x) (.dp 3 0 (wyL x)) rfl rfl (jH hx) rfl<|oR 1 rfl<|rAl 19 rfl rfl<|rSt rfl<|rE 21<|cRg<|oR 5 rfl<|rV (.agg [vU x.line,.v (.string x.data)]) rfl<|rV (.sl 2 ([[vU x.line,.v (.string x.data)]]) true) rfl<|rFx (x:=.osl 28 0 1 false) (h':=upd _ 28 (some (.arr (([(⟨x.line,x.data⟩:Pt)]).map ptL) 2))) rfl rfl (Ld omT) (⟨rfl,by exact omT,by exact omT,trivial⟩)<|oR 1 rfl<|rE 30<|cRg ?_;have b1:j+1≤1000001:=aG hjB (aC 1);refine rW (vN (j+1)) rfl (okI (bU b1 rfl))<|oR 1 rfl<|rE 32 ?_;refine⟨(j+1,true),λ i=>match i with|15=>28|i=>i,Weak.of_lists _ ⟨⟨rfl,rfl⟩,⟨rfl,rfl⟩,⟨rfl,rfl⟩,⟨rfl,rfl⟩,⟨rfl,rfl⟩,⟨rfl,rfl⟩,⟨rfl,rfl⟩,⟨rfl,rfl⟩,⟨rfl,rfl⟩,⟨rfl,rfl⟩,⟨rfl,rfl⟩,⟨rfl,rfl⟩,⟨rfl,rfl⟩,⟨(show AV.osl 28 0 (1) false=AV.osl 28 0 (cT c k s (j+1)).length false from by rw[←(show [(⟨x.line,x.data⟩:Pt)]=cT c k s (j+1)from (by rw[←(iY hx),hNj];rfl))];first|done|rfl|(congr 1<;>(first|exact omT|simp))),rfl⟩,trivial⟩ ⟨⟨rfl,rfl,rfl⟩,⟨rfl,(congrArg (λ z:List Pt=>some (Blk.arr (z.map ptL) 2)) (show [(⟨x.line,x.data⟩:Pt)]=cT c k s (j+1)from (by rw[←(iY hx),hNj];rfl))),rfl⟩,trivial⟩ rfl,by omega,by show s.length - (j+1)<s.length - j;omega⟩
    ·have h2p:=aE h2;refine eP<|cRg ?_;have b2:k+1≤1000001:=aG hkB (aC 1);refine rW (vN (k+1)) rfl (okI (bU b2 rfl))<|oR 1 rfl<|rE 19 ?_;refine⟨(k+1,false),λ i=>i,Weak.of_lists _ wT wH rfl,⟨by omega,(by rw[←mS (j:=j) hs omT];exact hNj)⟩,by show c.sets.length - (k+1)<c.sets.length - k;omega⟩
   ·have hj_:=hj;have hnn:j≤s.length:=hj_;have hjB:j≤1000000:=by omega
    have habj:(cT c k s j).length≤10:=(BP hc4 hc2 hsl);refine cSR<|rW (vB (decide (j<s.length))) rfl (okB (ltN _ _))<|rE 17<|bK<|aV rfl (λ h3=>?_) (λ h3=>?_)
    ·have h3p:=of_decide_eq_true h3;refine bB<|bK<|bL<|cSR ?_;obtain⟨x,hx⟩:∃ y_,s[j]?=some y_:=⟨_,aA omT⟩;have hxo:=hso.2 x (aB hx);refine rIx (wyL x) (.dp 3 0 (wyL x)) rfl rfl (jH hx) rfl<|oR 1 rfl<|rAl 19 rfl rfl<|rSt rfl<|rE 21<|cRg<|oR 5 rfl<|rV (.agg [vU x.line,.v (.string x.data)]) rfl<|rV (.sl 2 ([[vU x.line,.v (.string x.data)]]) true) rfl<|rFx (x:=.osl 28 0 ((cT c k s j).length+1) false) (h':=upd (upd _ 15 none) 28 (some (.arr (((cT c k s j)++([(⟨x.line,x.data⟩:Pt)])).map ptL) 2))) rfl rfl (gT ptL (cT c k s j) ([(⟨x.line,x.data⟩:Pt)]) omT omT) (⟨by exact omT,by exact omT,trivial⟩)<|oR 1 rfl<|rE 30<|cRg ?_;have b3:j+1≤1000001:=aG hjB (aC 1);refine rW (vN (j+1)) rfl (okI (bU b3 rfl))<|oR 1 rfl<|rE 32 ?_;refine⟨(j+1,true),λ i=>match i with|15=>28|i=>i,Weak.of_lists _ ⟨⟨rfl,rfl⟩,⟨rfl,rfl⟩,⟨rfl,rfl⟩,⟨rfl,rfl⟩,⟨rfl,rfl⟩,⟨rfl,rfl⟩,⟨rfl,rfl⟩,⟨rfl,rfl⟩,⟨rfl,rfl⟩,⟨rfl,rfl⟩,⟨rfl,rfl⟩,⟨rfl,rfl⟩,⟨rfl,rfl⟩,⟨(show AV.osl 28 0 ((cT c k s j).length+1) false=AV.osl 28 0 (cT c k s (j+1)).length false from by rw[←(show (cT c k s j)++([(⟨x.line,x.data⟩:Pt)])=cT c k s (j+1)from iY hx)];first|done|rfl|(congr 1<;>(first|exact omT|simp))),rfl⟩,trivial⟩ ⟨⟨rfl,rfl,rfl⟩,⟨rfl,(congrArg (λ z:List Pt=>some (Blk.arr (z.map ptL) 2)) (show (cT c k s j)++([(⟨x.line,x.data⟩:Pt)])=cT c k s (j+1)from iY hx)),rfl⟩,trivial⟩ rfl,by omega,by show s.length - (j+1)<s.length - j;omega⟩
    ·have h3p:=aE h3;refine eP<|cRg ?_;have b4:k+1≤1000001:=aG hkB (aC 1);refine rW (vN (k+1)) rfl (okI (bU b4 rfl))<|oR 1 rfl<|rE 19 ?_;refine⟨(k+1,true),λ i=>match i with|7=>15|i=>i,Weak.of_lists _ ⟨⟨rfl,rfl⟩,⟨rfl,rfl⟩,⟨rfl,rfl⟩,⟨rfl,rfl⟩,⟨rfl,rfl⟩,⟨rfl,rfl⟩,⟨(show AV.osl 15 0 ((cT c k s j).length) false=AV.osl 15 0 (dX c (k+1)).length false from by rw[←(show cT c k s j=dX c (k+1)from mS hs omT)];first|done|rfl|(congr 1<;>(first|exact omT|simp))),rfl⟩,trivial⟩ ⟨⟨rfl,rfl,rfl⟩,⟨rfl,(congrArg (λ z:List Pt=>some (Blk.arr (z.map ptL) 2)) (show cT c k s j=dX c (k+1)from mS hs omT)),rfl⟩,trivial⟩ rfl,by omega,by show c.sets.length - (k+1)<c.sets.length - k;omega⟩
  ·have h1p:=aE h1;refine eP<|cSR<|oR 2 rfl<|rCi rfl (PV q m ck hm hq ho)<|oR 1 rfl<|rCi rfl (Mo (fW q m) (by unfold fW;rw[fD];exact hm))<|oR 1 rfl<|rE 15<|cO ?_;have hW:Am c q m=mG (fW q m) (dX c k):=by unfold Am;rw[sZ omT]
   rw[hW,hNk];exact fT rfl rfl
 ·have hk_:=hk;have hnn:k≤c.sets.length:=hk_;have hkB:k≤1000000:=by omega
  have habk:(dX c k).length≤8:=(BO hc4 hc2);refine cSR<|rW (vB (decide (k<c.sets.length))) rfl (okB (ltN _ _))<|rE 9<|bK<|aV rfl (λ h4=>?_) (λ h4=>?_)
  ·have h4p:=of_decide_eq_true h4;refine bB<|bK<|bL<|cSR ?_;obtain⟨s,hs⟩:∃ y_,c.sets[k]?=some y_:=⟨_,aA omT⟩;have hso:=hok.set s (aB hs);have hsl:s.length≤2:=hc2 s (aB hs);refine rIx (cE s) (.dp 1 0 (cE s)) rfl rfl (jH hs) rfl<|oR 2 rfl<|rE 12<|cSR<|oR 1 rfl<|rW (vN s.length) rfl (cG wyL s)<|oR 1 rfl<|rE 15<|bL<|oE (κ:=Nat) (λ j=>⟨slotsF [(1,.sl 4 (q.map rqL) ck),(2,.v (.string m)),(6,.v (.string (⟨#[]⟩:ByteArray))),(13,.sl 1 (c.sets.map cE) false),(14,vN c.sets.length),(15,vN k),(16,vB (decide (k<c.sets.length))),(17,.dp 1 0 (cE s)),(18,.sl 3 (s.map wyL) false),(9,.sl 3 (s.map wyL) false),(19,.sl 3 (s.map wyL) false),(20,vN s.length),(21,vN j),(7,.osl 15 0 ((cT c k s j).length) false)],heapF [(0,.box [vI c.ways,.sl 1 (c.sets.map cE) false]),(15,.arr ((cT c k s j).map ptL) 2)],16⟩) (λ j=>j≤s.length) (λ j=>s.length - j) 0 (λ i=>match i with|15=>7|i=>i) (Weak.of_lists (λ i=>match i with|15=>7|i=>i) ⟨⟨rfl,rfl⟩,⟨rfl,rfl⟩,⟨rfl,rfl⟩,⟨rfl,rfl⟩,⟨rfl,rfl⟩,⟨rfl,rfl⟩,⟨rfl,rfl⟩,⟨rfl,rfl⟩,⟨rfl,rfl⟩,⟨rfl,rfl⟩,⟨rfl,rfl⟩,⟨rfl,rfl⟩,⟨rfl,rfl⟩,⟨(show AV.osl 7 0 ((dX c k).length) false=AV.osl 7 0 (cT c k s 0).length false from by rw[←(show dX c k=cT c k s 0 from sY c k s)]),rfl⟩,trivial⟩ ⟨⟨rfl,rfl,rfl⟩,⟨rfl,(congrArg (λ z:List Pt=>some (Blk.arr (z.map ptL) 2)) (show dX c k=cT c k s 0 from sY c k s)),rfl⟩,trivial⟩ rfl) (aD _) ?_;intro j hj;have hj_:=hj;have hnn:j≤s.length:=hj_;have hjB:j≤1000000:=by omega
   have habj:(cT c k s j).length≤10:=(BP hc4 hc2 hsl);refine cSR<|rW (vB (decide (j<s.length))) rfl (okB (ltN _ _))<|rE 17<|bK<|aV rfl (λ h5=>?_) (λ h5=>?_)
   ·have h5p:=of_decide_eq_true h5;refine bB<|bK<|bL<|cSR ?_;obtain⟨x,hx⟩:∃ y_,s[j]?=some y_:=⟨_,aA omT⟩;have hxo:=hso.2 x (aB hx);refine rIx (wyL x) (.dp 3 0 (wyL x)) rfl rfl (jH hx) rfl<|oR 1 rfl<|rAl 19 rfl rfl<|rSt rfl<|rE 21<|cRg<|oR 5 rfl<|rV (.agg [vU x.line,.v (.string x.data)]) rfl<|rV (.sl 2 ([[vU x.line,.v (.string x.data)]]) true) rfl<|rFx (x:=.osl 28 0 ((cT c k s j).length+1) false) (h':=upd (upd _ 15 none) 28 (some (.arr (((cT c k s j)++([(⟨x.line,x.data⟩:Pt)])).map ptL) 2))) rfl rfl (gT ptL (cT c k s j) ([(⟨x.line,x.data⟩:Pt)]) omT omT) (⟨by exact omT,by exact omT,trivial⟩)<|oR 1 rfl<|rE 30<|cRg ?_;have b5:j+1≤1000001:=aG hjB (aC 1);refine rW (vN (j+1)) rfl (okI (bU b5 rfl))<|oR 1 rfl<|rE 32 ?_;refine⟨j+1,λ i=>match i with|15=>28|i=>i,Weak.of_lists _ ⟨⟨rfl,rfl⟩,⟨rfl,rfl⟩,⟨rfl,rfl⟩,⟨rfl,rfl⟩,⟨rfl,rfl⟩,⟨rfl,rfl⟩,⟨rfl,rfl⟩,⟨rfl,rfl⟩,⟨rfl,rfl⟩,⟨rfl,rfl⟩,⟨rfl,rfl⟩,⟨rfl,rfl⟩,⟨rfl,rfl⟩,⟨(show AV.osl 28 0 ((cT c k s j).length+1) false=AV.osl 28 0 (cT c k s (j+1)).length false from by rw[←(show (cT c k s j)++([(⟨x.line,x.data⟩:Pt)])=cT c k s (j+1)from iY hx)];first|done|rfl|(congr 1<;>(first|exact omT|simp))),rfl⟩,trivial⟩ ⟨⟨rfl,rfl,rfl⟩,⟨rfl,(congrArg (λ z:List Pt=>some (Blk.arr (z.map ptL) 2)) (show (cT c k s j)++([(⟨x.line,x.data⟩:Pt)])=cT c k s (j+1)from iY hx)),rfl⟩,trivial⟩ rfl,by omega,by show s.length - (j+1)<s.length - j;omega⟩
   ·have h5p:=aE h5;refine eP<|cRg ?_;have b6:k+1≤1000001:=aG hkB (aC 1);refine rW (vN (k+1)) rfl (okI (bU b6 rfl))<|oR 1 rfl<|rE 19 ?_;refine⟨(k+1,true),λ i=>match i with|7=>15|i=>i,Weak.of_lists _ ⟨⟨rfl,rfl⟩,⟨rfl,rfl⟩,⟨rfl,rfl⟩,⟨rfl,rfl⟩,⟨rfl,rfl⟩,⟨rfl,rfl⟩,⟨(show AV.osl 15 0 ((cT c k s j).length) false=AV.osl 15 0 (dX c (k+1)).length false from by rw[←(show cT c k s j=dX c (k+1)from mS hs omT)];first|done|rfl|(congr 1<;>(first|exact omT|simp))),rfl⟩,trivial⟩ ⟨⟨rfl,rfl,rfl⟩,⟨rfl,(congrArg (λ z:List Pt=>some (Blk.arr (z.map ptL) 2)) (show cT c k s j=dX c (k+1)from mS hs omT)),rfl⟩,trivial⟩ rfl,by omega,by show c.sets.length - (k+1)<c.sets.length - k;omega⟩
  ·have h4p:=aE h4;refine eP<|cSR<|oR 2 rfl<|rCi rfl (PV q m ck hm hq ho)<|oR 1 rfl<|rCl (x:=.v (.string (mG (fW q m) (dX c k)))) rfl (.inr ⟨rfl,⟨trivial,(by show 0+((dX c k).length)≤((dX c k).map ptL).length;exact omT),trivial⟩⟩) ((show bT C0 _ [_,.sl 2 (List.take ((dX c k).length) (List.drop 0 ((dX c k).map ptL))) false] _ from by rw[jQ ptL (dX c k) omT];exact PU (fW q m) (dX c k) false (by unfold fW;rw[fD];exact hm) (by have:=BO (k:=k) hc4 hc2;omega) (Mq (λ s hs=>(hok.set s hs).2) k)))<|oR 1 rfl<|rE 15<|cO ?_;have hW:Am c q m=mG (fW q m) (dX c k):=by unfold Am;rw[sZ omT]
   rw[hW];exact fT rfl rfl
theorem Zy(stores:List Pt)(c:Ca)(q:List Req)(m:ByteArray)(ck ck2:Bool)(hok:c.ok)(hc4:c.sets.length≤4)(hc2:∀ s∈c.sets,s.length≤2)(hm:m.size≤1000000)(hq:q.length≤900000)(ho:∀ x∈q,x.ok)(hst:stores.length≤1000000)(hso:∀ x∈stores,x.ok):bT C0 151 [.sl 2 (stores.map ptL) ck2,.agg (caL c false),.sl 4 (q.map rqL) ck,.v (.string m)] (.v (.string (Ko stores c q m))):=by
 refine bT.intro c0Ok Tryz.func151 rfl rfl (by kernel_rfl) rfl<|cSR<|rAl 0 rfl rfl<|oR 1 rfl<|rE 2<|cSR<|oR 3 rfl<|rCi rfl (Yd c q m ck hok hc4 hc2 hm hq ho)<|oR 1 rfl<|rCi rfl (PU (Am c q m) stores ck2 (by unfold Am fW;rw[fD,fD];exact hm) hst hso)<|oR 1 rfl<|rE 9<|cO ?_;exact fT rfl rfl
theorem PW{m:ByteArray}{a:Nat}(h:a≤m.size):(m.extract a m.size).extract 0 (min (m.extract a m.size).size 16)=m.extract a (a+min (m.size - a) 16):=by
 have hs:(m.extract a m.size).size=m.size - a:=by rw[cY];omega
 rw[hs,ByteArray.extract_extract];congr 1<;>omega
theorem Zz(m:ByteArray)(line:Nat)(hm:m.size≤1000000)(hline:line≤4294967295):bT C0 199 [.v (.string m),vU line] (.v (.string (AE m line))):=by
 refine bT.intro c0Ok Tryz.func199 rfl rfl (by kernel_rfl) rfl<|cSR<|oR 1 rfl<|rE 1<|cSR<|oR 1 rfl<|rCi rfl (tC line hline)<|oR 1 rfl<|rE 4<|bK<|cSR<|oR 1 rfl<|rW (.v (.int .u64 ((lineOf line:Nat):Int))) rfl (okI (IG (dR hline) rfl))<|oR 1 rfl<|rV (vN m.size) rfl<|rW (.v (.int .u64 ((m.size:Nat):Int))) rfl (okI (IG hm rfl))<|rW (vB (decide ((lineOf line)≥m.size))) rfl (okB (geN _ _))<|rE 10<|aV rfl (λ h1=>?_) (λ h1=>?_)
 ·have h1p:=of_decide_eq_true h1;refine cSR<|oR 1 rfl<|rE 11<|cO ?_;exact fT rfl (by unfold AE;rw[if_neg omT];rfl)
 ·have h1p:=aE h1;refine bB<|cSR<|oR 2 rfl<|nW (.v (.string (m.extract (lineOf line) m.size))) rfl rfl (by refine⟨?_,?_,?_⟩<;>(first|exact aF _|decide|(apply Ff.2;exact omT)))<|oR 1 rfl<|rE 14<|cSR<|oR 2 rfl<|rV (vN ((m.extract (lineOf line) m.size).size)) rfl<|rW (vN (min ((m.extract (lineOf line) m.size).size) 16)) rfl (Cb ((m.extract (lineOf line) m.size).size) 16)<|nW (.v (.string ((m.extract (lineOf line) m.size).extract 0 (min ((m.extract (lineOf line) m.size).size) 16)))) rfl rfl (by refine⟨?_,?_,?_⟩<;>(first|exact aF _|decide|(apply Ff.2;exact omT)))<|oR 1 rfl<|rE 20<|cO ?_;exact fT rfl (by unfold AE;rw[if_pos omT,PW omT];rfl)
theorem Gl(r:Nat→Nat)(s:Sp)(hr:∀ k,r k≤4294967295)(hs:s.ok):bT C0 107 [.agg (Jy r),.agg (spL s)] (.agg (Jy (sM r s))):=by
 refine bT.intro c0Ok Tryz.func107 rfl rfl (by kernel_rfl) rfl<|cSR<|rAl 0 rfl rfl<|rAl 1 rfl rfl<|rAl 2 rfl rfl<|rE 3<|bK<|cSR<|oR 2 rfl<|rV (vB (decide (s.rd≥1))) rfl<|oR 1 rfl<|gN rfl<|gS rfl id<|gBS (x:=vB (decide (s.rd≤31))) rfl id rfl<|cS rfl rfl rfl (λ h=>h)<|oR 1 rfl<|gN rfl<|gS rfl id<|gBS (x:=vB (s.halt==0)) rfl id rfl<|cS rfl rfl rfl (λ h=>h)<|rE 16<|aV rfl (λ h1=>?_) (λ h1=>?_)
 ·have hA:(1≤s.rd∧s.rd≤31∧s.halt=0):=by have z:=h1;simp only[qA,aH,aS,pS,kC,aU,ne_eq]at z;omega
  refine cRg<|oR 4 rfl<|nW (.ptr 0 (0+s.rd.toNat * 1)) rfl rfl omT<|Xz (h':=upd _ 0 (some (.box (Jy (Wh r s.rd.toNat s.value))))) rfl rfl (aa2 (r:=r) (v:=s.value) rfl rfl rfl omT) (trivial)<|rE 22<|cSR<|oR 1 rfl<|rSt rfl<|rE 24<|cO ?_;rw[show sM r s=Wh r s.rd.toNat s.value from by unfold sM;rw[if_pos hA]];exact eQ rfl rcT rfl rfl
 ·have hA: ¬ (1≤s.rd∧s.rd≤31∧s.halt=0):=by have z:=h1;simp only[qA,aH,aS,pS,kC,aU,ne_eq]at z;omega
  refine bB<|cSR<|oR 1 rfl<|rSt rfl<|rE 18<|cO ?_;rw[show sM r s=r from by unfold sM;rw[if_neg hA]];exact eQ rfl rcT rfl rfl
abbrev aa0(o:Option Pt):AV:=.tup [.agg (ptL (o.getD ⟨0,nE⟩)),vB o.isSome]
theorem KZ(s:Sp)(hs:s.ok):bT C0 106 [.agg (spL s)] (aa0 (gH s)):=by
 refine bT.intro c0Ok Tryz.func106 rfl rfl (by kernel_rfl) rfl<|cSR<|rAl 0 rfl rfl<|rAl 1 rfl rfl<|oR 1 rfl<|rE 3<|bK<|cSR<|oR 4 rfl<|gN rfl<|gS rfl id<|gBS (x:=vB (s.halt != 0)) rfl id rfl<|cS rfl rfl rfl (by simp)<|oR 1 rfl<|gN rfl<|gS rfl id<|gBS (x:=vB (s.size != 1)) rfl id rfl<|gS rfl id<|gN rfl<|gS rfl id<|gBS (x:=vB (s.size != 2)) rfl id rfl<|vW (x:=vB (dE (s.size != 1) (s.size != 2) false)) (g:= !(dE (!s.store) true (s.halt != 0))) rfl rfl rfl rfl (λ h=>h) rfl rfl (λ hg hc=>by first|(rw[hg,hc];rfl)|simp_all)<|gS rfl id<|gN rfl<|gS rfl id<|gBS (x:=vB (s.size != 4)) rfl id rfl<|vW (x:=vB (dE (dE (s.size != 1) (s.size != 2) false) (s.size != 4) false)) (g:= !(dE (!s.store) true (s.halt != 0))) rfl rfl rfl rfl (λ h=>h) rfl rfl (λ hg hc=>by first|(rw[hg,hc];rfl)|simp_all)<|cS rfl rfl rfl (by simp)<|rE 26<|aV rfl (λ h1=>?_) (λ h1=>?_)
 ·have hA:s.store=false∨s.halt≠0∨(s.size≠1∧s.size≠2∧s.size≠4):=by have z:=h1;simp only[qA,cOr,aH,dH,aS,pS,pV,qE,dW,kC,iC,pG,ne_eq,and_imp]at z;rcases z with (z|z)|z<;>simp_all
  refine cSR<|rV (.agg [.v (.int .u32 0),.v (.string (⟨#[]⟩:ByteArray))]) rfl<|rSt rfl<|oR 1 rfl<|rE 29<|cO ?_;rw[show gH s=none from by unfold gH;rw[if_pos hA]];exact fT rfl rfl
 ·have hA: ¬ (s.store=false∨s.halt≠0∨(s.size≠1∧s.size≠2∧s.size≠4)):=by have z:=h1;intro q;rcases q with q|q|⟨q1,q2,q3⟩<;>simp_all[qA,cOr]
  obtain⟨n,hn⟩:∃ n:Nat,s.size=(n:Int):=⟨s.size.toNat,by omega⟩;have hn4:n≤4:=by omega
  refine bB<|cSR<|oR 4 rfl<|rCl (x:=.tup [.v (.string (rY s.value n)),vI 0]) rfl (.inl rfl) ((by rw[hn];exact Qi s.value n (BT hs.value) hn4))<|oR 5 rfl<|rE 36<|cSR<|oR 3 rfl<|rV (.agg [vU s.addr,.v (.string (rY s.value n))]) rfl<|rSt rfl<|oR 1 rfl<|rE 42<|cO ?_;rw[show gH s=some ⟨s.addr,rY s.value n⟩from by unfold gH;rw[if_neg hA,hn];rfl];exact fT rfl rfl
theorem PP(k:Int):(if (0:Int)>k then 0 else k)=(((max k 0).toNat:Nat):Int):=by split<;>omega
theorem PQ(c:Cf):(bO c).lat.length≤64:=by unfold bO;simp;omega
theorem NE(c:Cf):(bO c).tape.length≤64:=by unfold bO;simp;omega
theorem HI{c:Cf}(h:∀ x∈c.tape,x≤4294967295):∀ x∈(bO c).tape,x≤4294967295:=λ x hx=>h x (cK hx)
theorem PR{c:Cf}{k:Int}{x:Int}(h: ¬ (bO c).lat.length=0)(hx:(bO c).lat[(max k 0).toNat % (bO c).lat.length]?=some x):x=kK c k:=by
 unfold kK;generalize (bO c).lat=l at h hx
 cases l with
 |nil=>exact absurd rfl h
 |cons y l=>simp only[bC,hx];rfl
theorem NF{c:Cf}{k:Int}{x pc:Nat}(h: ¬ (bO c).tape.length=0)(hx:(bO c).tape[(max k 0).toNat % (bO c).tape.length]?=some x):x=xN c k pc:=by
 unfold xN;generalize (bO c).tape=l at h hx
 cases l with
 |nil=>exact absurd rfl h
 |cons y l=>simp only[bC,hx];rfl
theorem Ev(c:Cf)(k:Int)(hok:c.ok)(hk:k≤9223372036854775807):bT C0 156 [.agg (cfL c false false),vI k] (vI (kK c k)):=by
 refine bT.intro c0Ok Tryz.func156 rfl rfl (by kernel_rfl) rfl<|cSR<|rAl 0 rfl rfl<|oR 1 rfl<|rE 2<|cSR<|oR 1 rfl<|rCi rfl (Id c false false hok)<|oR 2 rfl<|rE 6<|bK<|cSR<|oR 1 rfl<|rW (vN (((bO c).lat).length)) rfl (cG jL ((bO c).lat))<|rW (vB ((((bO c).lat).length)==0)) rfl (okB (eqN _ _))<|rE 9<|aV rfl (λ h1=>?_) (λ h1=>?_)
 ·have h1p:=mC h1;refine cSR<|oR 1 rfl<|rE 10<|cO ?_;have hz:(bO c).lat=[]:=bA h1p;exact fT rfl (Mt (by unfold kK;rw[hz]))
 ·have h1p:=mD h1;have hml:=aY (max k 0).toNat (eX h1p);refine bB<|cSR<|oR 2 rfl<|rW (vN ((max k 0).toNat)) rfl (okI (PP k))<|oR 1 rfl<|rW (vN (((bO c).lat).length)) rfl (cG jL ((bO c).lat)) ?_;have b1:((max k 0).toNat) % (((bO c).lat).length)≤9223372036854775807:=aL (oA _ _) omT;refine nW (vN (((max k 0).toNat) % (((bO c).lat).length))) rfl (Fh (Yg _ _)) omT ?_;obtain⟨x1,hx1⟩:∃ x,((bO c).lat)[(((max k 0).toNat) % (((bO c).lat).length))]?=some x:=⟨_,aA omT⟩;refine rIx (jL x1) (.dp 1 0 (jL x1)) rfl rfl (jH hx1) rfl<|oR 2 rfl<|rE 18<|cO ?_;exact fT rfl (Mt (PR h1p hx1))
theorem PS(c:Cf)(k:Int)(pc:Nat)(hok:c.ok)(hk:k≤9223372036854775807)(hpc:pc≤4294967295):bT C0 173 [.agg (cfL c false false),vI k,vU pc] (vU (xN c k pc)):=by
 refine bT.intro c0Ok Tryz.func173 rfl rfl (by kernel_rfl) rfl<|cSR<|rAl 0 rfl rfl<|oR 1 rfl<|rE 2<|cSR<|oR 1 rfl<|rCi rfl (Id c false false hok)<|oR 2 rfl<|rE 6<|bK<|cSR<|oR 1 rfl<|rW (vN (((bO c).tape).length)) rfl (cG iI ((bO c).tape))<|rW (vB ((((bO c).tape).length)==0)) rfl (okB (eqN _ _))<|rE 9<|aV rfl (λ h1=>?_) (λ h1=>?_)
 ·have h1p:=mC h1;refine cSR<|oR 1 rfl ?_;have b1:(pc+4) % 4294967296≤4294967295:=aT (aY _ (by decide));refine rV (vU ((pc+4) % 4294967296)) rfl<|oR 1 rfl<|rE 12<|cO ?_;have hz:(bO c).tape=[]:=bA h1p;exact fT rfl (Gq (by unfold xN;rw[hz];rfl))
 ·have h1p:=mD h1;have hml:=aY (max k 0).toNat (eX h1p);refine bB<|cSR<|oR 2 rfl<|rW (vN ((max k 0).toNat)) rfl (okI (PP k))<|oR 1 rfl<|rW (vN (((bO c).tape).length)) rfl (cG iI ((bO c).tape)) ?_;have b2:((max k 0).toNat) % (((bO c).tape).length)≤9223372036854775807:=aL (oA _ _) omT;refine nW (vN (((max k 0).toNat) % (((bO c).tape).length))) rfl (Fh (Yg _ _)) omT ?_;obtain⟨x1,hx1⟩:∃ x,((bO c).tape)[(((max k 0).toNat) % (((bO c).tape).length))]?=some x:=⟨_,aA omT⟩;have hx1o:=(HI hok.tp) x1 (aB hx1);refine rIx (iI x1) (.dp 1 0 (iI x1)) rfl rfl (jH hx1) rfl<|oR 2 rfl<|rE 18<|cO ?_;exact fT rfl (Gq (NF h1p hx1))
theorem yI(n lo hi:Int):bT C0 83 [vI n,vI lo,vI hi] (vB (inI n lo hi)):=by
 refine bT.intro c0Ok Tryz.func83 rfl rfl (by kernel_rfl) rfl<|cSR<|oR 1 rfl<|rE 1<|cSR<|oR 2 rfl<|rV (vB (decide (n≥lo))) rfl<|oR 1 rfl<|gN rfl<|gN rfl<|gBS (x:=vB (decide (n≤hi))) rfl hsT rfl<|cS rfl rfl rfl (λ h=>h)<|oR 1 rfl<|rE 10<|cO ?_;exact fT rfl (dM (by rw[bP];simp[qA,cOr,inI]))
structure Cf.okW(c:Cf):Prop where
 lat:c.lat.length≤9223372036854775807
 tape:c.tape.length≤9223372036854775807
 tp:∀ x∈c.tape,x≤4294967295
theorem DB{α:Type}{p:α→Bool}{l:List α}{k:Nat}{x:α}(hx:l[k]?=some x)(hp:p x=true)(h:(l.take k).all p=true):(l.take (k+1)).all p=true:=by
 rw[bV,hx,List.all_append,h];simpa using hp
theorem HJ{α:Type}{p:α→Bool}{l:List α}{k:Nat}{x:α}(hx:l[k]?=some x)(hp:p x=false):l.all p=false:=by
 rw[List.all_eq_false];exact⟨x,aB hx,by simp[hp]⟩
theorem DC{α:Type}{p:α→Bool}{l:List α}{k:Nat}(hk:l.length≤k)(h:(l.take k).all p=true):l.all p=true:=by rwa [aM hk]at h
theorem SN(c:Cf)(hok:c.okW):bT C0 46 [.agg (cfL c false false)] (vB (tD c)):=by
 refine bT.intro c0Ok Tryz.func46 rfl rfl (by kernel_rfl) rfl<|cSR<|rAl 0 rfl rfl<|oR 1 rfl<|rE 2<|cSR<|oR 1 rfl<|rE 3<|bK<|cSR<|oR 2 rfl<|rW (vN c.lat.length) rfl (cG jL c.lat)<|oR 1 rfl<|rE 7<|bL<|oE (κ:=Nat) (λ k=>⟨slotsF [(1,.ptr 0 0),(3,.clo 83 [] []),(7,.sl 1 (c.lat.map jL) false),(8,vN c.lat.length),(9,vN k)],heapF [(0,.box [vI c.mode,vI c.width,vI c.rob,vI c.queue,vI c.stores,vI c.slots,vI c.sets,vI c.ways,.sl 1 (c.lat.map jL) false,vB c.tables,.sl 1 (c.tape.map iI) false])],7⟩) (λ k=>k≤c.lat.length∧(c.lat.take k).all (λ n=>inI n 1 8)=true) (λ k=>c.lat.length - k) 0 (λ s=>s) (Weak.of_lists (λ s=>s) wT wH rfl) (⟨aD _,rfl⟩) ?_;intro k hk;have hkn:k≤c.lat.length:=hk.1;have hkB:k≤9223372036854775807:=by have:=hok.lat;omega
 have hlat:=hok.lat;refine cSR<|rW (vB (decide (k<c.lat.length))) rfl (okB (ltN _ _))<|rE 8<|bK<|aV rfl (λ h1=>?_) (λ h1=>?_)
 ·have h1p:=of_decide_eq_true h1;refine bB<|bK<|bL<|cSR ?_;obtain⟨x,hx⟩:∃ x,c.lat[k]?=some x:=⟨_,aA omT⟩;refine rIx (jL x) (.dp 1 0 (jL x)) rfl rfl (jH hx) rfl<|oR 2 rfl<|rE 11<|cSR<|oR 2 rfl<|rCi rfl (yI x 1 8)<|oR 1 rfl<|rE 15<|aV rfl (λ h2=>?_) (λ h2=>?_)
  ·refine cSR<|oR 1 rfl<|rE 16<|cO ?_;have z:=h2;exact fT rfl (dM (by unfold tD;rw[HJ hx (by simpa using z)];simp))
  ·refine bB<|cRg ?_;have b1:k+1≤9223372036854775807:=by omega
   refine rW (vN (k+1)) rfl (okI (bU (show k+1≤9223372036854775807 by omega) rfl))<|oR 1 rfl<|rE 17 ?_;refine⟨k+1,λ s=>s,Weak.of_lists _ wT wH rfl,⟨by omega,DB hx (by simpa using h2) hk.2⟩,by show c.lat.length - (k+1)<c.lat.length - k;omega⟩
 ·have h1p:=aE h1;refine eP<|cSR<|oR 3 rfl<|rCi rfl (yI c.mode 0 2)<|oR 1 rfl<|gN rfl<|gN rfl<|gS rfl id<|lX (x:=vB (inI c.width 1 2)) (g:=inI c.mode 0 2) rfl rfl rfl rfl hsT rfl rfl rfl (.inl rfl) rfl (λ hg=>yI c.width 1 2)<|cS rfl rfl rfl (λ h=>h)<|oR 1 rfl<|gN rfl<|gN rfl<|gS rfl id<|lX (x:=vB (inI c.rob 2 8)) (g:=dE (inI c.mode 0 2) (inI c.width 1 2) false) rfl rfl rfl rfl hsT rfl rfl rfl (.inl rfl) rfl (λ hg=>yI c.rob 2 8)<|cS rfl rfl rfl (λ h=>h)<|oR 1 rfl<|gN rfl<|gN rfl<|gS rfl id<|lX (x:=vB (inI c.queue 1 4)) (g:=dE (dE (inI c.mode 0 2) (inI c.width 1 2) false) (inI c.rob 2 8) false) rfl rfl rfl rfl hsT rfl rfl rfl (.inl rfl) rfl (λ hg=>yI c.queue 1 4)<|cS rfl rfl rfl (λ h=>h)<|oR 1 rfl<|gN rfl<|gN rfl<|gS rfl id<|lX (x:=vB (inI c.stores 1 4)) (g:=dE (dE (dE (inI c.mode 0 2) (inI c.width 1 2) false) (inI c.rob 2 8) false) (inI c.queue 1 4) false) rfl rfl rfl rfl hsT rfl rfl rfl (.inl rfl) rfl (λ hg=>yI c.stores 1 4)<|cS rfl rfl rfl (λ h=>h)<|oR 1 rfl<|gN rfl<|gN rfl<|gS rfl id<|lX (x:=vB (inI c.slots 2 6)) (g:=dE (dE (dE (dE (inI c.mode 0 2) (inI c.width 1 2) false) (inI c.rob 2 8) false) (inI c.queue 1 4) false) (inI c.stores 1 4) false) rfl rfl rfl rfl hsT rfl rfl rfl (.inl rfl) rfl (λ hg=>yI c.slots 2 6)<|cS rfl rfl rfl (λ h=>h)<|oR 1 rfl<|gN rfl<|gN rfl<|gS rfl id<|lX (x:=vB (inI c.sets 1 4)) (g:=dE (dE (dE (dE (dE (inI c.mode 0 2) (inI c.width 1 2) false) (inI c.rob 2 8) false) (inI c.queue 1 4) false) (inI c.stores 1 4) false) (inI c.slots 2 6) false) rfl rfl rfl rfl hsT rfl rfl rfl (.inl rfl) rfl (λ hg=>yI c.sets 1 4)<|cS rfl rfl rfl (λ h=>h)<|oR 1 rfl<|gN rfl<|gS rfl id<|gBS (x:=vB (c.sets != 3)) rfl id rfl<|cS rfl rfl rfl (λ h=>h)<|oR 1 rfl<|gN rfl<|gN rfl<|gS rfl id<|lX (x:=vB (inI c.ways 1 2)) (g:=dE (dE (dE (dE (dE (dE (dE (inI c.mode 0 2) (inI c.width 1 2) false) (inI c.rob 2 8) false) (inI c.queue 1 4) false) (inI c.stores 1 4) false) (inI c.slots 2 6) false) (inI c.sets 1 4) false) (c.sets != 3) false) rfl rfl rfl rfl hsT rfl rfl rfl (.inl rfl) rfl (λ hg=>yI c.ways 1 2)<|cS rfl rfl rfl (λ h=>h)<|oR 1 rfl<|gN rfl<|gS rfl id<|gBS (x:=vN c.lat.length) rfl id (cG jL c.lat)<|gBS (x:=vB (decide (c.lat.length≤64))) rfl id (okB (leN _ _))<|cS rfl rfl rfl (λ h=>h)<|oR 1 rfl<|gN rfl<|gS rfl id<|gBS (x:=vN c.tape.length) rfl id (cG iI c.tape)<|gBS (x:=vB (decide (c.tape.length≤64))) rfl id (okB (leN _ _))<|cS rfl rfl rfl (λ h=>h)<|oR 1 rfl<|rE 72<|cO ?_;have hall:=DC (p:=λ n=>inI n 1 8) omT hk.2;exact fT rfl (dM (by unfold tD;rw[hall,bP];simp[qA,tY]))
theorem Yb(c:Ca)(f:Cf)(hok:c.ok):bT C0 48 [.agg (caL c false),.agg (cfL f false false)] (vB (uF c f)):=by
 refine bT.intro c0Ok Tryz.func48 rfl rfl (by kernel_rfl) rfl<|cSR<|rAl 0 rfl rfl<|rAl 1 rfl rfl<|oR 1 rfl<|rE 3<|cSR<|oR 1 rfl<|rCi rfl (BZ c false hok)<|oR 1 rfl<|gN rfl<|gS rfl id<|gBS (x:=vN c.sets.length) rfl id (cG cE c.sets)<|gN rfl<|gS rfl id<|gBS (x:=vB (((c.sets.length:Nat):Int)==f.sets)) rfl hsT rfl<|cS rfl rfl rfl (λ h=>h)<|oR 1 rfl<|gN rfl<|gS rfl id<|gN rfl<|gS rfl id<|gBS (x:=vB (c.ways==f.ways)) rfl hsT rfl<|cS rfl rfl rfl (λ h=>h)<|oR 1 rfl<|rE 21<|cO ?_;exact fT rfl (dM (by rw[bP];simp[qA,cOr,uF]))
abbrev brA(t:Ca×List Req×Bool):AV:=.tup [.agg (caL t.1 false),.sl 4 (t.2.1.map rqL) false,vB t.2.2]
abbrev dnA(t:List Pt×Ca×Bool):AV:=.tup [.sl 2 (t.1.map ptL) false,.agg (caL t.2.1 false),vB t.2.2]
theorem Gm{c:Ca}(hok:c.ok)(line:Nat)(d:ByteArray)(b:Bool):(mF c line d b).2.1.line≤4294967295:=by
 by_cases hR:iW c=true
 ·by_cases hF:(aX c line).2.isSome=true
  ·rw[BR hF];exact aD _
  ·rw[xI hR (by simpa using hF)];split
   ·show ((kD c (aX c line).1).getLast?.getD pD).line≤_
    cases hl:(kD c (aX c line).1).getLast? with
    |none=>exact aD _
    |some w=>
     have hw:=List.mem_of_getLast? hl;have hk:(aX c line).1<c.sets.length:=by rw[mB hR];exact yJ (jP hR).1 _
     rw[rO (aA hk)]at hw;exact ((hok.set _ (iP hk)).2 w hw).line
   ·exact aD _
 ·rw[Ms (by simpa using hR)];exact aD _
theorem Mm(c:Ca)(q:List Req)(m:ByteArray)(line:Nat)(left:Int)(hok:c.ok)(hq:q.length≤900000)(ho:∀ x∈q,x.ok)(hm:m.size≤1000000)(hline:line≤4294967295):bT C0 155 [.agg (caL c false),.sl 4 (q.map rqL) false,.v (.string m),vU line,vI left] (brA (gD c q m line left)):=by
 refine dc1 (bT.intro c1Ok Tryz.func155 rfl rfl (by kernel_rfl) rfl ?_);refine cSR<|rAl 0 rfl rfl<|rAl 1 rfl rfl<|oR 2 rfl<|rE 4<|bK<|cSR<|oR 1 rfl<|rCi rfl (BZ c false hok)<|oR 1 rfl<|rE 7<|aV rfl (λ h1=>?_) (λ h1=>?_)
 ·refine cSR<|oR 2 rfl<|rSt rfl<|oR 2 rfl<|rE 12<|cO ?_;rw[show gD c q m line left=(c,q,false)from by unfold gD;rw[if_pos (by simpa using h1)]];exact fT rfl rfl
 ·refine bB<|cSR<|oR 1 rfl<|rCi rfl (tC line hline)<|oR 1 rfl<|rE 10<|bK<|cSR<|oR 2 rfl<|rCi rfl (Af c (lineOf line) hok (dR hline))<|oR 7 rfl<|rE 20<|cSR<|oR 1 rfl<|rE 21<|aV rfl (λ h2=>?_) (λ h2=>?_)
  ·refine cSR<|oR 2 rfl<|rCi rfl (HL c (lineOf line) hok (dR hline))<|oR 1 rfl<|rSt rfl<|oR 2 rfl<|rE 28<|cO ?_;rw[show gD c q m line left=(mL c (lineOf line),q,false)from by unfold gD;rw[if_neg (by simpa using h1),if_pos h2]];exact fT rfl rfl
  ·refine bB<|cSR<|oR 4 rfl<|rCi rfl (PV q m false hm hq ho)<|oR 1 rfl<|rCi rfl (Zz (fW q m) (lineOf line) (by unfold fW;rw[fD];exact hm) (dR hline))<|rCi rfl (PY c (lineOf line) (AE (fW q m) (lineOf line)) false hok (dR hline))<|oR 4 rfl<|rAl 33 rfl rfl<|rSt rfl<|rSt rfl<|oR 1 rfl<|rE 37<|bK<|bK<|cRg<|oR 2 rfl<|gN rfl<|gS rfl id<|cS rfl rfl rfl (λ h=>h)<|oR 1 rfl<|gN rfl<|gS rfl id<|gBS (x:=vB (!(((mF c (lineOf line) (AE (fW q m) (lineOf line)) false).2.1.data).toList==(⟨#[]⟩:ByteArray).toList))) rfl id rfl<|cS rfl rfl rfl (λ h=>h)<|rE 47<|aV rfl (λ h3=>?_) (λ h3=>?_)
   ·have hq4:((mF c (lineOf line) (AE (fW q m) (lineOf line)) false).2.2=true∧(mF c (lineOf line) (AE (fW q m) (lineOf line)) false).2.1.dirty=true∧(mF c (lineOf line) (AE (fW q m) (lineOf line)) false).2.1.data.size≠0):=by have z:=h3;rw[yZ]at z;simpa [qA,tY]using z
    refine cSR<|oR 7 rfl<|rCi rfl (Mr q 4 (mF c (lineOf line) (AE (fW q m) (lineOf line)) false).2.1.line left (mF c (lineOf line) (AE (fW q m) (lineOf line)) false).2.1.data false hq ho (Gm hok _ _ _))<|rSt rfl<|oR 2 rfl<|rE 58<|cO ?_;rw[show gD c q m line left=((mF c (lineOf line) (AE (fW q m) (lineOf line)) false).1,oY q 4 (mF c (lineOf line) (AE (fW q m) (lineOf line)) false).2.1.line left (mF c (lineOf line) (AE (fW q m) (lineOf line)) false).2.1.data,true)from by unfold gD;rw[if_neg (by simpa using h1),if_neg (by rw[h2];decide)];exact if_pos hq4];exact fT rfl rfl
   ·have hq4: ¬ ((mF c (lineOf line) (AE (fW q m) (lineOf line)) false).2.2=true∧(mF c (lineOf line) (AE (fW q m) (lineOf line)) false).2.1.dirty=true∧(mF c (lineOf line) (AE (fW q m) (lineOf line)) false).2.1.data.size≠0):=by have z:=h3;rw[yZ]at z;simpa [qA,tY]using z
    refine bB<|cSR<|oR 2 rfl<|rSt rfl<|oR 2 rfl<|rE 52<|cO ?_;rw[show gD c q m line left=((mF c (lineOf line) (AE (fW q m) (lineOf line)) false).1,q,false)from by unfold gD;rw[if_neg (by simpa using h1),if_neg (by rw[h2];decide)];exact if_neg hq4];exact fT rfl rfl
theorem Yc(l:List Pt)(c:Ca)(hok:c.ok)(hl:l.length≤1000000)(ho:∀ x∈l,x.ok):bT C0 120 [.sl 2 (l.map ptL) false,.agg (caL c false)] (dnA (lJ l c)):=by
 refine dc1 (bT.intro c1Ok Tryz.func120 rfl rfl (by kernel_rfl) rfl ?_);refine cSR<|rAl 0 rfl rfl<|oR 1 rfl<|rAl 2 rfl rfl<|oR 1 rfl<|rE 4<|bK<|cSR<|oR 1 rfl<|rW (vN l.length) rfl (cG ptL l)<|rW (vB (l.length==0)) rfl (okB (eqN _ _))<|rE 7<|aV rfl (λ h1=>?_) (λ h1=>?_)
 ·have h1p:=mC h1;refine bK<|Fp rfl rfl<|oR 3 rfl<|rSt rfl<|oR 1 rfl<|rE 12<|And.intro (by kernel_rfl)<|cO ?_;have hz:l=[]:=bA h1p;subst hz;exact fT rfl rfl
 ·have h1p:=mD h1;refine bB<|cSR<|oR 2 rfl ?_;obtain⟨p,hp⟩:∃ x,l[0]?=some x:=⟨_,aA omT⟩;have hpo:=ho p (aB hp);refine CP (ptL p) (x:=.dp 2 0 (ptL p)) rfl rfl rfl (⟨by decide,jH hp⟩) rfl<|oR 3 rfl<|CP (ptL p) (x:=.dp 2 0 (ptL p)) rfl rfl rfl (⟨by decide,jH hp⟩) rfl<|oR 2 rfl<|rCi rfl (SS c p.addr p.data hok hpo.addr)<|oR 3 rfl<|rAl 20 rfl rfl<|rSt rfl<|oR 1 rfl<|rE 23<|bK<|cSR<|oR 2 rfl<|rE 25<|aV rfl (λ h2=>?_) (λ h2=>?_)
  ·refine bK<|Fp rfl rfl<|oR 3 rfl<|rSt rfl<|oR 1 rfl<|rE 30<|And.intro (by kernel_rfl)<|cO ?_;rw[show lJ l c=(l,c,false)from by unfold lJ;cases l with|nil=>cases hp|cons y l=>injection hp with hp;subst hp;exact if_neg (by simpa using h2)];exact fT rfl rfl
  ·refine bB<|bK<|Fp rfl rfl<|oR 1 rfl<|nW (.sl 2 ((l.drop 1).map ptL) false) rfl (xJ (Jx ptL l 1)) slT<|oR 2 rfl<|rSt rfl<|oR 1 rfl<|rE 31<|And.intro (by kernel_rfl)<|cO ?_;rw[show lJ l c=(l.drop 1,(mV c p.addr p.data).1,true)from by unfold lJ;cases l with|nil=>cases hp|cons y l=>injection hp with hp;subst hp;exact if_pos (by simpa using h2)];exact fT rfl rfl
end Go.Proofs.YtlhofpglndhfaaaGreatDoor
