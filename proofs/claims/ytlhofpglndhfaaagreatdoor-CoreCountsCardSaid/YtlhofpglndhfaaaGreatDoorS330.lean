/- Joined texts. -/
import Derived.Test.YtlhofpglndhfaaaGreatDoorS301
import Derived.Test.YtlhofpglndhfaaaGreatDoorS328
import Derived.Test.YtlhofpglndhfaaaGreatDoorS329
set_option linter.unusedVariables false
set_option linter.unusedSimpArgs false
namespace Go.Proofs.YtlhofpglndhfaaaGreatDoor
open Go.RowKit
noncomputable def C1:Ctx:={C0 with lt:=true}
theorem c1Ok:CtxOk C1:=⟨c0Ok.1,c0Ok.2,c0Ok.3⟩
theorem dc1{f:FuncId}{args:List AV}{r:AV}(h:bY C1 f args r):bY C0 f args r:=h
theorem w64(x:Int):IntKind.wrap .i64 x=wrap64 x:=by rw[IntKind.wrap_i64];simp only[wrap64]
theorem cOr(c y:Bool):cA c true y=(c||y):=by cases c<;>rfl
theorem pM(c x:Bool):cA c x false=(c&&x):=by cases c<;>rfl
theorem sP{p q:Prop}(h:p)(t:p→q:=by intro h;(try simp only[w64,cOr,pM,dG,aK,dT,jV,pD,pG,ne_eq,aX,gT,bC,lL,eI,Bool.not_eq_false,Bool.not_eq_eq_eq_not,lO,Bool.not_false,Decidable.not_not]at h);exact h):q:=t h
abbrev zCo:List AV:=[vI 0,vI 0,vI 0,vI 0,vI 0,vI 0,vI 0,vI 0,.sl 0 ([]) true,vB false,.sl 0 ([]) true,.sl 0 ([]) true,vI 0,zU,zU,zU,zU,zU,zU,zU,zU,zU,zU,zU,zU,zU,zU,zU,zU,zU,zU,zU,zU,zU,zU,zU,zU,zU,zU,zU,zU,zU,zU,zU,zU,zU,vB false,.sl 0 ([]) true,.sl 0 ([]) true,vI 0,.sl 0 ([]) true,vI 0,.sl 0 ([]) true,vI 0,.sl 0 ([]) true,.sl 0 ([]) true,vI 0,vI 0,.v (.string (⟨#[]⟩:ByteArray)),.sl 0 ([]) true,zU,.sl 0 ([]) true,vI 0,.sl 0 ([]) true]
theorem kX{α:Type}[BEq α][LawfulBEq α]{a b:α}(h:(a==b)=true):a=b:=eq_of_beq h
theorem kY{α:Type}[BEq α][LawfulBEq α]{a b:α}(h:(a==b)=false): ¬ a=b:=λ e=>by rw[e,beq_self_eq_true]at h;cases h
theorem vA{α:Type}[BEq α][LawfulBEq α]{a b:α}(h:(a != b)=true): ¬ a=b:=λ e=>by rw[e]at h;simp at h
theorem vC{α:Type}[BEq α][LawfulBEq α]{a b:α}(h:(a != b)=false):a=b:=by simpa using h
theorem sJ{α:Type}(f:α→List AV)(l:List α){n:Nat}(h:l.length=n):Res.ok (.v (.int .i64 ((l.map f).length:Int)))=.ok (.v (.int .i64 (n:Int))):=by rw[aO,h]
theorem Hk{α:Type}{l:List α}{k:Nat}{x:α}(h:l[k]?=some x):l[0+k]?=some x:=by rwa [bU]
theorem OT{p:Prop}{x:AV}{h:AH}{b rs:Nat}{r r':List (List AV)}(e:r=r'):Res.fx p x (upd h b (some (.arr r rs)))=.fx p x (upd h b (some (.arr r' rs))):=by rw[e]
theorem uO{α:Type}{f:α→List AV}{l:List α}{k:Nat}{x:α}{h:AH}{b rs:Nat}:some (upd h b (some (.arr ((l.map f).set (0+k) (f x)) rs)))=some (upd h b (some (.arr ((l.set k x).map f) rs))):=by rw[bU,List.map_set]
theorem vX{p:Prop}{rs:Nat}{r r':List (List AV)}{c:Bool}(e:r=r'):Res.need p (.sl rs r c)=.need p (.sl rs r' c):=by rw[e]
theorem JY{p:Prop}{s lo lo' n n':Nat}{c:Bool}(e:lo=lo')(e':n=n'):Res.need p (.osl s lo n c)=.need p (.osl s lo' n' c):=by rw[e,e']
section
variable {α:Type}(f:α→List AV)
section
variable (l:List α)
theorem tT(H:Nat):List.drop 0 (List.take H (l.map f))=(l.take H).map f:=by rw[cQ,fO]
theorem Iy(L:Nat):List.drop L (List.take (l.map f).length (l.map f))=(l.drop L).map f:=by rw[dI,lQ]
theorem DR{p:Prop}{H:AH}{s rs m:Nat}{c:List (List AV)}(hl:c.length=m):Res.fx p (.osl s 0 c.length false) (upd H s (some (.arr c rs)))=.fx p (.osl s 0 m false) (upd H s (some (.arr c rs))):=by rw[hl]
theorem gU{p:Prop}{H:AH}{s rs n m:Nat}(B:List α)(h1:l.length=n)(h2:l.length+B.length=m):
  Res.fx p (.osl s 0 ((List.take n (List.drop 0 (l.map f))).length+(B.map f).length) false) (upd H s (some (.arr (List.take n (List.drop 0 (l.map f))++B.map f) rs)))=.fx p (.osl s 0 m false) (upd H s (some (.arr ((l++B).map f) rs))):=by
 rw[cQ,aN (by rw[aO,h1];exact aC _),aO,aO,h2,fX]
theorem zH{p:Prop}{H:AH}{s rs m:Nat}(B:List α)(h2:l.length+B.length=m):
  Res.fx p (.osl s 0 ((l.map f).length+(B.map f).length) false) (upd H s (some (.arr (l.map f++B.map f) rs)))=.fx p (.osl s 0 m false) (upd H s (some (.arr ((l++B).map f) rs))):=by
 rw[aO,aO,h2,fX]
theorem Rp{p:Prop}{H:AH}{s rs lo n m:Nat}(B:List α)(h2:((l.drop lo).take n).length+B.length=m):
  Res.fx p (.osl s 0 ((List.take n (List.drop lo (l.map f))).length+(B.map f).length) false) (upd H s (some (.arr (List.take n (List.drop lo (l.map f))++B.map f) rs)))=.fx p (.osl s 0 m false) (upd H s (some (.arr ((((l.drop lo).take n)++B).map f) rs))):=by
 rw[←h2,fX,fO,lQ,aO];simp only[aQ,bA,aO]
end
theorem CU{n:Nat}(X:List (List AV))(B:List α)(hB:B.length=n)(hX:X.length=n):X.take 0++(B.map f).take (min (B.map f).length n)++X.drop (0+min (B.map f).length n)=B.map f:=by
 rw[aO,hB,Nat.min_self,pF,iN,eF (by omega),eQ,aN (by rw[aO];omega)]
section
variable (l:List α)
theorem Bl{lo n:Nat}{M:List α}(h:(l.drop lo).take n=M):List.take n (List.drop lo (l.map f))=M.map f:=by rw[←h,fO,lQ]
theorem kA{n:Nat}(h:l.length≤n):List.take n (List.drop 0 (l.map f))=l.map f:=by rw[cQ,aN (by rw[aO];exact h)]
end
end
theorem CV{α:Type}{f:α→List AV}{l:List α}{b rs lo n:Nat}{c:Bool}(h:lo+n≤l.length):LeZ (some (b,rs,l.map f)) (.osl b lo n c) (.sl rs (((l.drop lo).take n).map f) false):=by
 have:=LeZ.frz (fz:=some (b,rs,l.map f)) b rs lo n (l.map f) c false rfl (by rw[aO];exact h) (λ h=>by cases h);rw[fO,lQ];exact this
theorem lD{α:Type}{f:α→List AV}{l:List α}{b rs n:Nat}{c:Bool}(h:l.length=n):LeZ (some (b,rs,l.map f)) (.osl b 0 n c) (.sl rs (l.map f) false):=by
 have:=CV (f:=f) (b:=b) (rs:=rs) (c:=c) (l:=l) (lo:=0) (n:=n) (by omega)
 rwa [cQ,aN (by omega)]at this
theorem rfT{p:Prop}(h:p:=by repeat (first|exact trivial|refine⟨.refl _,?_⟩|refine⟨CV (by exact omT),?_⟩|refine⟨lD (by exact omT),?_⟩)):p:=h
theorem sW{α:Type}{P:α→Prop}{l:List α}{n:Nat}(h:∀ x∈l,P x):∀ x∈l.take n,P x:=λ x hx=>h x (cO hx)
theorem GJ{α:Type}{P:α→Prop}{l:List α}{n:Nat}(h:∀ x∈l,P x):∀ x∈l.drop n,P x:=λ x hx=>h x (eP hx)
theorem nQ{α:Type}{P:α→Prop}{l m:List α}(h:∀ x∈l,P x)(h':∀ x∈m,P x):∀ x∈l++m,P x:=λ x hx=>(al_List_mem_append.1 hx).elim (h x) (h' x)
theorem nU{α:Type}{P:α→Prop}{y:α}(h:P y):∀ x∈[y],P x:=λ x hx=>by rw[tM]at hx;rw[hx];exact h
theorem xN{α:Type}{P:α→Prop}{l:List α}{k:Nat}{y:α}(h:∀ x∈l,P x)(h':P y):∀ x∈l.set k y,P x:=λ x hx=>(List.mem_or_eq_of_mem_set hx).elim (h x) λ e=>e ▸ h'
theorem pJ.frame0{P:Program}{G:Nat→Option (List AV)}{f:FuncId}{args:List AV}{rows:List (List AV)}{rs lo n:Nat}{cl:Bool}(H:pJ P G f args (heapF []) 0 (λ x h'=>x=.osl 0 lo n cl∧h'=heapF [(0,.arr rows rs)]))(K:AH)(s2:Nat)(ha:fR args=true):
  pJ P G f args K s2 (λ x h'=>x=.osl s2 lo n cl∧h'=upd K s2 (some (.arr rows rs))):=by
 have:=H.frame (λ x=>x) K s2 rfl (λ x hx=>absurd rfl hx) (λ x blk hx=>by cases hx) (λ x y hx=>absurd hx (dX _)) (mY 0 args ha) (λ x h'=>x=.osl s2 lo n cl∧h'=upd K s2 (some (.arr rows rs))) λ r h' hP=>?_
 ·rwa [qE _ args ha]at this
 ·obtain⟨rfl,rfl⟩:=hP;refine⟨_,⟨by simp[uK,uT],rfl⟩,λ y blk hy=>?_⟩;by_cases he:y=s2
  ·subst he;rw[dA]at hy;injection hy with hy;exact .inl ⟨0,.arr rows rs,rfl,(uT _ _ _).symm,by subst hy;rfl⟩
  ·rw[cE _ _ he]at hy;exact .inr ⟨hy,λ x hx=>absurd hx (dX _)⟩
theorem pJ.frameO{P:Program}{G:Nat→Option (List AV)}{f:FuncId}{args:List AV}{rows rows2:List (List AV)}{rs rs2 n:Nat}(H:pJ P G f args (heapF [(0,.arr rows rs)]) 1 (λ x h'=>x=.osl 1 0 n false∧h'=heapF [(0,.arr rows rs),(1,.arr rows2 rs2)]))(b:Nat)(K:AH)(s2:Nat)(hb:Nat.blt b s2=true)(hK:K b=some (.arr rows rs))(ha:pK 1 args=true):
  pJ P G f (Bz (λ _=>b) args) K s2 (λ x h'=>x=.osl s2 0 n false∧h'=upd K s2 (some (.arr rows2 rs2))):=by
 have hb:=aR hb;refine H.frame (λ _=>b) K s2 rfl (λ x hx=>?_) (λ x blk0 hx=>?_) (λ x y hx hy _=>by omega) ha _ λ r' h' hP=>?_
 ·cases x with
  |zero=>omega
  |succ x=>exact absurd rfl hx
 ·cases x with
  |zero=>injection hx with hx;subst hx;exact⟨hb,rfl,hK⟩
  |succ x=>cases hx
 ·obtain⟨rfl,rfl⟩:=hP;refine⟨_,⟨by simp[uK,uT],rfl⟩,λ y blk0 hy=>?_⟩;by_cases he:y=s2
  ·subst he;rw[dA]at hy;injection hy with hy;exact .inl ⟨1,.arr rows2 rs2,rfl,(uT _ _ _).symm,by subst hy;rfl⟩
  ·rw[cE _ _ he]at hy;by_cases hyb:y=b
   ·subst hyb;rw[hK]at hy;injection hy with hy;exact .inl ⟨0,.arr rows rs,rfl,rfl,by subst hy;rfl⟩
   ·exact .inr ⟨hy,λ x hx e=>hyb e.symm⟩
abbrev yM(b:Bool):List AV:=[.v (.bool b)]
structure Ent.ok(e:Ent):Prop where
 pc:e.pc≤4294967295
 imm:e.i.imm≤4294967295
 guess:e.guess≤4294967295
 value:e.value≤4294967295
 next:e.next≤4294967295
 addr:e.addr≤4294967295
structure Req.ok(x:Req):Prop where
 line:x.line≤4294967295
structure Pt.ok(x:Pt):Prop where
 addr:x.addr≤4294967295
structure Ft.ok(x:Ft):Prop where
 pc:x.pc≤4294967295
 guess:x.guess≤4294967295
structure Gs.ok(x:Gs):Prop where
 pc:x.pc≤4294967295
 next:x.next≤4294967295
structure Sp.ok(x:Sp):Prop where
 pc:x.pc≤4294967295
 next:x.next≤4294967295
 value:x.value≤4294967295
 addr:x.addr≤4294967295
theorem Bm{a b B:Nat}(h:b≤a)(h2:a≤B)(hB:Nat.ble B 9223372036854775807=true):IntKind.wrap .i64 ((a:Int) - (b:Int))=((a - b:Nat):Int):=by
 have:=aR hB;rw[wrap_i64 (by omega) (by omega)];omega
theorem VH(a b:Nat):Int.tmod (a:Int) (b:Int)=((a % b:Nat):Int):=pI a b |>.symm
theorem BA{a:Nat}(h:a≤4294967295):a<4294967296:=jY h
theorem oF{e e':Ent}(h:e=e'):AV.agg (enL e)=.agg (enL e'):=by rw[h]
theorem CA{e e':Sp}(h:e=e'):AV.agg (spL e)=.agg (spL e'):=by rw[h]
theorem cY{b b':Bool}(h:b=b'):AV.v (.bool b)=.v (.bool b'):=by rw[h]
theorem Ln{b b':Int}(h:b=b'):AV.v (.int .i64 b)=.v (.int .i64 b'):=by rw[h]
theorem Fs{b b':Nat}(h:b=b'):AV.v (.int .u32 (b:Int))=.v (.int .u32 (b':Int)):=by rw[h]
abbrev Iz(r:Nat→Nat):List AV:=[.v (.int .u32 (r 0:Int)),.v (.int .u32 (r 1:Int)),.v (.int .u32 (r 2:Int)),.v (.int .u32 (r 3:Int)),.v (.int .u32 (r 4:Int)),.v (.int .u32 (r 5:Int)),.v (.int .u32 (r 6:Int)),.v (.int .u32 (r 7:Int)),.v (.int .u32 (r 8:Int)),.v (.int .u32 (r 9:Int)),.v (.int .u32 (r 10:Int)),.v (.int .u32 (r 11:Int)),.v (.int .u32 (r 12:Int)),.v (.int .u32 (r 13:Int)),.v (.int .u32 (r 14:Int)),.v (.int .u32 (r 15:Int)),.v (.int .u32 (r 16:Int)),.v (.int .u32 (r 17:Int)),.v (.int .u32 (r 18:Int)),.v (.int .u32 (r 19:Int)),.v (.int .u32 (r 20:Int)),.v (.int .u32 (r 21:Int)),.v (.int .u32 (r 22:Int)),.v (.int .u32 (r 23:Int)),.v (.int .u32 (r 24:Int)),.v (.int .u32 (r 25:Int)),.v (.int .u32 (r 26:Int)),.v (.int .u32 (r 27:Int)),.v (.int .u32 (r 28:Int)),.v (.int .u32 (r 29:Int)),.v (.int .u32 (r 30:Int)),.v (.int .u32 (r 31:Int))]
theorem ldL(r:Nat→Nat)(n:Nat)(hn:n<32):okO (KL (Iz r) (0+n * 1))=.ok (.v (.int .u32 (r n:Int))):=by
 have:∀ (n:_root_.Fin 32),okO (KL (Iz r) (0+n.1 * 1))=.ok (.v (.int .u32 (r n.1:Int))):=by
  intro n
  match n with
  |⟨0,_⟩=>rfl
  |⟨1,_⟩=>rfl
  |⟨2,_⟩=>rfl
  |⟨3,_⟩=>rfl
  |⟨4,_⟩=>rfl
  |⟨5,_⟩=>rfl
  |⟨6,_⟩=>rfl
  |⟨7,_⟩=>rfl
  |⟨8,_⟩=>rfl
  |⟨9,_⟩=>rfl
  |⟨10,_⟩=>rfl
  |⟨11,_⟩=>rfl
  |⟨12,_⟩=>rfl
  |⟨13,_⟩=>rfl
  |⟨14,_⟩=>rfl
  |⟨15,_⟩=>rfl
  |⟨16,_⟩=>rfl
  |⟨17,_⟩=>rfl
  |⟨18,_⟩=>rfl
  |⟨19,_⟩=>rfl
  |⟨20,_⟩=>rfl
  |⟨21,_⟩=>rfl
  |⟨22,_⟩=>rfl
  |⟨23,_⟩=>rfl
  |⟨24,_⟩=>rfl
  |⟨25,_⟩=>rfl
  |⟨26,_⟩=>rfl
  |⟨27,_⟩=>rfl
  |⟨28,_⟩=>rfl
  |⟨29,_⟩=>rfl
  |⟨30,_⟩=>rfl
  |⟨31,_⟩=>rfl
  |⟨k+32,h⟩=>exact absurd h (by omega)
 exact this ⟨n,hn⟩
theorem Xe(r:Nat→Nat)(n v:Nat)(hn:n<32):yT (0+n * 1) [.v (.int .u32 (v:Int))] (Iz r)=Iz (Ua r n v):=by
 have:∀ (n:_root_.Fin 32),yT (0+n.1 * 1) [.v (.int .u32 (v:Int))] (Iz r)=Iz (Ua r n.1 v):=by
  intro n
  match n with
  |⟨0,_⟩=>rfl
  |⟨1,_⟩=>rfl
  |⟨2,_⟩=>rfl
  |⟨3,_⟩=>rfl
  |⟨4,_⟩=>rfl
  |⟨5,_⟩=>rfl
  |⟨6,_⟩=>rfl
  |⟨7,_⟩=>rfl
  |⟨8,_⟩=>rfl
  |⟨9,_⟩=>rfl
  |⟨10,_⟩=>rfl
  |⟨11,_⟩=>rfl
  |⟨12,_⟩=>rfl
  |⟨13,_⟩=>rfl
  |⟨14,_⟩=>rfl
  |⟨15,_⟩=>rfl
  |⟨16,_⟩=>rfl
  |⟨17,_⟩=>rfl
  |⟨18,_⟩=>rfl
  |⟨19,_⟩=>rfl
  |⟨20,_⟩=>rfl
  |⟨21,_⟩=>rfl
  |⟨22,_⟩=>rfl
  |⟨23,_⟩=>rfl
  |⟨24,_⟩=>rfl
  |⟨25,_⟩=>rfl
  |⟨26,_⟩=>rfl
  |⟨27,_⟩=>rfl
  |⟨28,_⟩=>rfl
  |⟨29,_⟩=>rfl
  |⟨30,_⟩=>rfl
  |⟨31,_⟩=>rfl
  |⟨k+32,h⟩=>exact absurd h (by omega)
 exact this ⟨n,hn⟩
theorem XI{ev:Operand→AV}{h:AH}{s b n v:Nat}{a x:Operand}{r:Nat→Nat}(ha:ev a=.ptr b (0+n * 1))(hb:h b=some (.box (Iz r)))(hx:ev x=.v (.int .u32 (v:Int)))(hn:n<32):
  opA C0 ev h s (.store 26 a x)=.fx True .any (upd h b (some (.box (Iz (Ua r n v))))):=by
 have hty:C0.ty 26=some Xx:=rfl;have hc:(0+n * 1+([.v (.int .u32 (v:Int))]:List AV).length).ble (Iz r).length=true:=jS (by simp;omega);simp only[opA,hty,hx,kD,ha,hb];rw[show ([AV.v (Value.int IntKind.u32 (v:Int))].length.beq 1)=true from rfl];simp only;rw[hc];simp only;rw[Xe _ _ _ hn]
set_option maxRecDepth 100000
set_option maxHeartbeats 4000000
theorem lN{α:Type}{l:List α}{k:Nat}(h:k<l.length):(eH l k).length=l.length:=by
 unfold eH;rw[aA h];simp;omega
theorem Bj{α:Type}{l:List α}{k:Nat}{x:α}(h:l[k]?=some x):eH l k=[x]++l.take k++l.drop (k+1):=by unfold eH;rw[h]
theorem mP{α:Type}{P:α→Prop}{l:List α}{k:Nat}(h:∀ x∈l,P x):∀ x∈eH l k,P x:=by
 intro x hx;unfold eH at hx;rcases al_List_mem_append.1 hx with hx|hx
 ·rcases al_List_mem_append.1 hx with hx|hx
  ·split at hx
   ·rename_i y hy;simp at hx;subst hx;exact h _ (aB hy)
   ·simp at hx
  ·exact h _ (cO hx)
 ·exact h _ (eP hx)
theorem jX{c:Ca}(h:fY c=true):0<c.sets.length∧c.sets.length≤4∧c.ways≤2∧1≤c.ways∧∀ s∈c.sets,(s.length:Int)≤c.ways:=by
 obtain⟨⟨h1,h2⟩,h3⟩:=(mF c).1 h;refine⟨by omega,by omega,by omega,by omega,λ s hs=>?_⟩;obtain⟨k,hk,rfl⟩:=fU hs;exact ((mA c k _).1 (h3 k _ (aA hk))).1
theorem DP:∀ {l:List Wy} {line j:Nat},jN l line=some j→j<l.length
 |[],_,_,h=>by cases h
 | w::l,line,j,h=>by
  simp only[jN]at h;split at h
  ·injection h with h;subst h;simp
  ·obtain⟨i,hi,rfl⟩:=EL.1 h;have:=DP hi;simp;omega
theorem rG{c:Ca}{k:Nat}{s:List Wy}(h:c.sets[k]?=some s):oT c k=s:=by unfold oT;rw[h];rfl
theorem Aa{c:Ca}(h:0<c.sets.length)(line:Nat):xQ c line<c.sets.length:=bG _ h
theorem qN{c:Ca}{line:Nat}(h:fY c=true):bE c line=(xQ c (lineOf line),jN (oT c (xQ c (lineOf line))) (lineOf line)):=if_pos h
theorem nP{c:Ca}{line:Nat}(h:(bE c line).2.isSome=true):fY c=true∧(bE c line).1=xQ c (lineOf line)∧(bE c line).1<c.sets.length∧(bE c line).2.getD 0<(oT c (bE c line).1).length:=by
 by_cases hr:fY c=true
 ·rw[qN hr]at h⊢;obtain⟨j,hj⟩:=Ep.1 h;have hj':jN (oT c (xQ c (lineOf line))) (lineOf line)=some j:=hj;refine⟨hr,rfl,Aa (jX hr).1 _,?_⟩;show (jN (oT c (xQ c (lineOf line))) (lineOf line)).getD 0<_;rw[hj'];exact DP hj'
 ·unfold bE at h;rw[if_neg hr]at h;cases h
theorem Cp{c:Ca}{line:Nat}(h:(bE c line).2.isSome=true):sK c line=oH c (bE c line).1 (eH (oT c (bE c line).1) ((bE c line).2.getD 0)):=by
 unfold sK;obtain⟨j,hj⟩:=Ep.1 h;have e:bE c line=((bE c line).1,some j):=by rw[←hj]
 rw[e];rfl
theorem Cq{c:Ca}{line:Nat}(h:(bE c line).2.isSome=false):sK c line=c:=by
 unfold sK;have hj:(bE c line).2=none:=by simpa using h
 have e:bE c line=((bE c line).1,none):=by rw[←hj]
 rw[e]
theorem Xd(a b:Int):max a b=if b>a then b else a:=by omega
theorem Lk(q:List Req)(kind:Int)(line:Nat)(left:Int)(data:ByteArray)(ck:Bool)(hq:q.length≤900000)(ho:∀ x∈q,x.ok)(hline:line≤4294967295):bY C0 171 [.sl 4 (q.map rqL) ck,vI kind,vU line,vI left,.v (.string data)] (.sl 4 ((wB q kind line left data).map rqL) false):=by
 refine bY.intro c0Ok Tryz.func171 rfl rfl (by kernel_rfl) rfl<|cSR<|oR 1 rfl<|rE 1<|cSR<|oR 1 rfl<|rW (vN q.length) rfl (bQ rqL q) ?_;have b1:q.length+1≤900001:=aH hq (aC 1);refine rW (vN (q.length+1)) rfl (okI (bS b1 rfl))<|rFx (x:=.osl 4 0 0 false) (h':=upd _ 4 (some (.arr (([]:List Req).map rqL) 4))) rfl rfl (rfl) (⟨by decide,Eo.2 omT,by show (((q.length+1):Nat):Int)≤1000000;omega⟩)<|oR 1 rfl<|rE 6<|cSR<|oR 2 rfl<|rFx (x:=.osl 8 0 q.length false) (h':=upd (upd _ 4 none) 8 (some (.arr (q.map rqL) 4))) rfl rfl (gU rqL ([]:List Req) q omT omT) (⟨by exact omT,by exact omT,trivial⟩)<|oR 1 rfl<|rE 10<|cSR<|oR 4 rfl<|rV (vI (if 1>left then 1 else left)) rfl<|oR 1 rfl<|rV (.agg [vI kind,vU line,vI (if 1>left then 1 else left),.v (.string data)]) rfl ?_;refine rV (.sl 4 ([[vI kind,vU line,vI (if 1>left then 1 else left),.v (.string data)]]) true) rfl<|rFx (x:=.osl 18 0 (q.length+1) false) (h':=upd (upd _ 8 none) 18 (some (.arr ((q++([(⟨kind,line,if 1>left then 1 else left,data⟩:Req)])).map rqL) 4))) rfl rfl (gU rqL q ([(⟨kind,line,if 1>left then 1 else left,data⟩:Req)]) omT omT) (⟨by exact omT,by exact omT,trivial⟩)<|oR 1 rfl<|rE 20<|cT<|eW rfl (by show 0+(q.length+1)≤((q++([(⟨kind,line,if 1>left then 1 else left,data⟩:Req)])).map rqL).length;exact omT) rfl ?_;show AV.sl 4 (List.take (q.length+1) (List.drop 0 ((q++([(⟨kind,line,if 1>left then 1 else left,data⟩:Req)])).map rqL))) false=_;rw[kA rqL (q++([(⟨kind,line,if 1>left then 1 else left,data⟩:Req)])) omT];rw[show wB q kind line left data=q++([(⟨kind,line,if 1>left then 1 else left,data⟩:Req)])from by unfold wB;congr 3;exact Xd left 1]
abbrev tkA(t:List Req×Req×Bool):AV:=.tup [.sl 4 (t.1.map rqL) false,.agg (rqL t.2.1),vB t.2.2]
theorem SD(q:List Req)(ck:Bool)(hq:q.length≤900000)(ho:∀ x∈q,x.ok):bY C0 91 [.sl 4 (q.map rqL) ck] (tkA (dZ q)):=by
 refine dc1 (bY.intro c1Ok Tryz.func91 rfl rfl (by kernel_rfl) rfl ?_);refine cSR<|oR 1 rfl<|rAl 1 rfl rfl<|oR 1 rfl<|rE 3<|aE<|cSR<|oR 1 rfl<|rW (vN q.length) rfl (bQ rqL q)<|rW (vB (q.length==0)) rfl (okB (eqN _ _))<|rE 6 ?_;refine aU rfl (λ h1=>?_) (λ h1=>?_)
 ·have h1p:=kX h1;refine cSR<|oR 1 rfl<|rV (.agg [vI 0,.v (.int .u32 0),vI 0,.v (.string (⟨#[]⟩:ByteArray))]) rfl<|oR 1 rfl<|rSt rfl<|oR 1 rfl<|rE 11<|cT ?_;have q0:q=[]:=bF h1p;subst q0;exact⟨_,rfl,trivial,rfl,Sub.tup ⟨Sub.clip 4 _ ck,Sub.refl _,Sub.refl _,trivial⟩⟩
 ·have h1p:=kY h1;refine aZ<|cSR<|oR 1 rfl<|rW (vN q.length) rfl (bQ rqL q)<|rFx (x:=.osl 8 0 q.length false) (h':=upd _ 8 (some (.arr ((List.replicate q.length MB).map rqL) 4))) rfl rfl (OT (gI (f:=rqL) (a:=MB)).symm) (⟨aI _,Eo.2 omT,by show ((q.length:Nat):Int)≤1000000;omega⟩)<|oR 1 rfl<|rE 10<|cSR<|oR 2 rfl<|rFx (x:=vI ((min ((q.map rqL).length) (q.length):Nat):Int)) (h':=upd _ 8 (some (.arr (q.map rqL) 4))) rfl rfl (GO (CU rqL ((List.replicate q.length MB).map rqL) q omT omT)) (⟨by exact omT,trivial⟩)<|rE 13<|cSR<|oR 1 rfl ?_;refine nW (.ptr2 8 (0+0) 0) rfl rfl (⟨by decide,En.2 (by show 0<q.length;exact omT)⟩)<|oR 1 rfl ?_;obtain⟨x,hx⟩:∃ x,q[0]?=some x:=⟨_,aA omT⟩;have hxo:=ho x (aB hx);refine Fb (rqL x) (x:=vI x.left) rfl rfl rfl (⟨by decide,Hk (gJ hx)⟩) rfl<|rV (vI (IntKind.wrap .i64 (x.left - 1))) rfl<|nW (.ptr2 8 (0+0) 0) rfl rfl (⟨by decide,En.2 (by show 0<q.length;exact omT)⟩)<|oR 1 rfl ?_;have hx1:(q.set 0 (⟨x.kind,x.line,IntKind.wrap .i64 (x.left - 1),x.data⟩:Req))[0]?=some (⟨x.kind,x.line,IntKind.wrap .i64 (x.left - 1),x.data⟩:Req):=bD omT;refine oE (rqL x) (h':=upd _ 8 (some (.arr ((q.set 0 (⟨x.kind,x.line,IntKind.wrap .i64 (x.left - 1),x.data⟩:Req)).map rqL) 4))) rfl rfl rfl (⟨by decide,Hk (gJ hx)⟩) (uO (f:=rqL) (l:=q) (k:=0) (x:=(⟨x.kind,x.line,IntKind.wrap .i64 (x.left - 1),x.data⟩:Req)))<|rE 21<|aE<|cSR<|oR 1 rfl<|nW (.ptr2 8 (0+0) 0) rfl rfl (⟨by decide,En.2 (by show 0<q.length;exact omT)⟩)<|oR 1 rfl<|Fb (rqL (⟨x.kind,x.line,IntKind.wrap .i64 (x.left - 1),x.data⟩:Req)) (x:=vI (IntKind.wrap .i64 (x.left - 1))) rfl rfl rfl (⟨by decide,Hk (gJ hx1)⟩) rfl<|rV (vB (decide ((IntKind.wrap .i64 (x.left - 1))>0))) rfl<|rE 26 ?_;refine aU rfl (λ h2=>?_) (λ h2=>?_)
  ·have h2p:=of_decide_eq_true h2;refine cSR<|oR 1 rfl<|rV (.agg [vI 0,.v (.int .u32 0),vI 0,.v (.string (⟨#[]⟩:ByteArray))]) rfl<|oR 1 rfl<|rSt rfl<|oR 1 rfl<|rE 31<|cT ?_
   try simp only[w64]at h2p
   obtain⟨l,hql⟩:∃ l,q=x::l:=by cases q with|nil=>cases hx|cons y l=>injection hx with hx;subst hx;exact⟨l,rfl⟩
   have hT:dZ q=({x with left:=wrap64 (x.left - 1)}::l,MB,false):=by rw[hql];unfold dZ;simp only[if_pos h2p]
   rw[hT];refine eW rfl ⟨(by show 0+q.length≤((q.set 0 (⟨x.kind,x.line,IntKind.wrap .i64 (x.left - 1),x.data⟩:Req)).map rqL).length;exact omT),tvT,trivial,trivial⟩ rfl ?_;show AV.tup [.sl 4 (List.take q.length (List.drop 0 ((q.set 0 (⟨x.kind,x.line,IntKind.wrap .i64 (x.left - 1),x.data⟩:Req)).map rqL))) false,.agg [vI 0,.v (.int .u32 0),vI 0,.v (.string (⟨#[]⟩:ByteArray))],vB false]=_;rw[kA rqL (q.set 0 (⟨x.kind,x.line,IntKind.wrap .i64 (x.left - 1),x.data⟩:Req)) omT];rw[hql];simp only[w64,jQ]
   try rfl
  ·have h2p:=aD h2;refine aZ<|aE<|Ba rfl rfl<|oR 1 rfl ?_;refine nW (.osl 8 1 (q.length - 1) false) rfl (JY (by first|rfl|omega) (by simp only[Option.getD];omega)) slT ?_;refine oR 1 rfl<|nW (.ptr2 8 (0+0) 0) rfl rfl (⟨by decide,En.2 (by show 0<q.length;exact omT)⟩)<|Fb (rqL (⟨x.kind,x.line,IntKind.wrap .i64 (x.left - 1),x.data⟩:Req)) (x:=.agg (rqL (⟨x.kind,x.line,IntKind.wrap .i64 (x.left - 1),x.data⟩:Req))) rfl rfl rfl (⟨by decide,Hk (gJ hx1)⟩) rfl<|oR 1 rfl<|rSt rfl<|oR 1 rfl<|rE 34<|And.intro (by kernel_rfl)<|cT ?_
   try simp only[w64]at h2p
   obtain⟨l,hql⟩:∃ l,q=x::l:=by cases q with|nil=>cases hx|cons y l=>injection hx with hx;subst hx;exact⟨l,rfl⟩
   have hT:dZ q=(l,{x with left:=wrap64 (x.left - 1)},true):=by rw[hql];unfold dZ;simp only[if_neg h2p]
   rw[hT];refine eW rfl ⟨(by show 1+(q.length - 1)≤((q.set 0 (⟨x.kind,x.line,IntKind.wrap .i64 (x.left - 1),x.data⟩:Req)).map rqL).length;exact omT),tvT,trivial,trivial⟩ rfl ?_;show AV.tup [.sl 4 (List.take (q.length - 1) (List.drop 1 ((q.set 0 (⟨x.kind,x.line,IntKind.wrap .i64 (x.left - 1),x.data⟩:Req)).map rqL))) false,.agg [vI x.kind,vU x.line,vI (IntKind.wrap .i64 (x.left - 1)),.v (.string x.data)],vB true]=_;rw[Bl (M:=(q.set 0 (⟨x.kind,x.line,IntKind.wrap .i64 (x.left - 1),x.data⟩:Req)).drop 1) rqL (q.set 0 (⟨x.kind,x.line,IntKind.wrap .i64 (x.left - 1),x.data⟩:Req)) (aN omT)];rw[hql];simp only[w64,jQ,List.drop_succ_cons,cQ]
   try rfl
theorem Iw(s:List Wy)(k:Nat)(ck:Bool)(hk:k<s.length)(hs:s.length≤900000)(ho:∀ x∈s,x.ok):bY C0 153 [.sl 3 (s.map wyL) ck,vN k] (.sl 3 ((eH s k).map wyL) false):=by
 refine bY.intro c0Ok Tryz.func153 rfl rfl (by kernel_rfl) rfl<|cSR<|oR 1 rfl<|rE 1<|cSR<|oR 1 rfl<|rW (vN s.length) rfl (bQ wyL s)<|rFx (x:=.osl 3 0 0 false) (h':=upd _ 3 (some (.arr (([]:List Wy).map wyL) 3))) rfl rfl (rfl) (⟨by decide,Eo.2 omT,by show ((s.length:Nat):Int)≤1000000;omega⟩)<|oR 1 rfl<|rE 5<|cSR<|oR 3 rfl ?_;obtain⟨x,hx⟩:∃ x,s[k]?=some x:=⟨_,aA omT⟩;have hxo:=ho x (aB hx);refine rIx (wyL x) (.dp 3 0 (wyL x)) rfl rfl (gJ hx) rfl<|oR 1 rfl<|rV (.sl 3 ([[vU x.line,vB x.dirty,.v (.string x.data)]]) true) rfl<|rFx (x:=.osl 11 0 1 false) (h':=upd (upd _ 3 none) 11 (some (.arr (([(⟨x.line,x.dirty,x.data⟩:Wy)]).map wyL) 3))) rfl rfl (gU wyL ([]:List Wy) ([(⟨x.line,x.dirty,x.data⟩:Wy)]) omT omT) (⟨by exact omT,by exact omT,trivial⟩)<|oR 1 rfl<|rE 13<|cSR<|oR 3 rfl ?_;refine nW (.sl 3 ((s.take k).map wyL) (ck&&false)) rfl (vX (tT wyL s k)) slT ?_;refine rFx (x:=.osl 17 0 (1+k) false) (h':=upd (upd _ 11 none) 17 (some (.arr ((([(⟨x.line,x.dirty,x.data⟩:Wy)])++(s.take k)).map wyL) 3))) rfl rfl (gU wyL ([(⟨x.line,x.dirty,x.data⟩:Wy)]) (s.take k) omT omT) (⟨by exact omT,by exact omT,trivial⟩)<|oR 1 rfl<|rE 19<|cSR<|oR 3 rfl ?_;have b1:k+1≤900001:=aH omT (aC 1);refine rW (vN (k+1)) rfl (okI (bS b1 rfl)) ?_;refine nW (.sl 3 ((s.drop (k+1)).map wyL) (ck&&true)) rfl (vX (Iy wyL s (k+1))) slT ?_;refine rFx (x:=.osl 24 0 (1+k+s.length - (k+1)) false) (h':=upd (upd _ 17 none) 24 (some (.arr (((([(⟨x.line,x.dirty,x.data⟩:Wy)])++(s.take k))++(s.drop (k+1))).map wyL) 3))) rfl rfl (gU wyL (([(⟨x.line,x.dirty,x.data⟩:Wy)])++(s.take k)) (s.drop (k+1)) omT omT) (⟨by exact omT,by exact omT,trivial⟩)<|oR 1 rfl<|rE 26<|cT<|eW rfl (by show 0+(1+k+s.length - (k+1))≤(((([(⟨x.line,x.dirty,x.data⟩:Wy)])++(s.take k))++(s.drop (k+1))).map wyL).length;exact omT) rfl ?_;show AV.sl 3 (List.take (1+k+s.length - (k+1)) (List.drop 0 (((([(⟨x.line,x.dirty,x.data⟩:Wy)])++(s.take k))++(s.drop (k+1))).map wyL))) false=_;rw[kA wyL ((([(⟨x.line,x.dirty,x.data⟩:Wy)])++(s.take k))++(s.drop (k+1))) omT];rw[Bj hx]
theorem OO(s:List Wy)(k:Nat)(ck:Bool)(hk:k<s.length)(hs:s.length≤900000)(ho:∀ x∈s,x.ok):pJ C0.P C0.G 153 [.sl 3 (s.map wyL) ck,vN k] (heapF []) 0 (λ x h'=>x=.osl 0 0 s.length false∧h'=heapF [(0,.arr ((eH s k).map wyL) 3)]):=by
 refine HCall.intro (C:=C0) (s:=0) c0Ok.at Tryz.func153 rfl rfl (by kernel_rfl) rfl rfl<|cSR<|oR 1 rfl<|rE 1<|cSR<|oR 1 rfl<|rW (vN s.length) rfl (bQ wyL s)<|rFx (x:=.osl 3 0 0 false) (h':=upd _ 3 (some (.arr (([]:List Wy).map wyL) 3))) rfl rfl (rfl) (⟨by decide,Eo.2 omT,by show ((s.length:Nat):Int)≤1000000;omega⟩)<|oR 1 rfl<|rE 5<|cSR<|oR 3 rfl ?_;obtain⟨x,hx⟩:∃ x,s[k]?=some x:=⟨_,aA omT⟩;have hxo:=ho x (aB hx);refine rIx (wyL x) (.dp 3 0 (wyL x)) rfl rfl (gJ hx) rfl<|oR 1 rfl<|rV (.sl 3 ([[vU x.line,vB x.dirty,.v (.string x.data)]]) true) rfl<|rFx (x:=.osl 11 0 1 false) (h':=upd (upd _ 3 none) 11 (some (.arr (([(⟨x.line,x.dirty,x.data⟩:Wy)]).map wyL) 3))) rfl rfl (gU wyL ([]:List Wy) ([(⟨x.line,x.dirty,x.data⟩:Wy)]) omT omT) (⟨by exact omT,by exact omT,trivial⟩)<|oR 1 rfl<|rE 13<|cSR<|oR 3 rfl ?_;refine nW (.sl 3 ((s.take k).map wyL) (ck&&false)) rfl (vX (tT wyL s k)) slT ?_;refine rFx (x:=.osl 17 0 (1+k) false) (h':=upd (upd _ 11 none) 17 (some (.arr ((([(⟨x.line,x.dirty,x.data⟩:Wy)])++(s.take k)).map wyL) 3))) rfl rfl (gU wyL ([(⟨x.line,x.dirty,x.data⟩:Wy)]) (s.take k) omT omT) (⟨by exact omT,by exact omT,trivial⟩)<|oR 1 rfl<|rE 19<|cSR<|oR 3 rfl ?_;have b1:k+1≤900001:=aH omT (aC 1);refine rW (vN (k+1)) rfl (okI (bS b1 rfl)) ?_;refine nW (.sl 3 ((s.drop (k+1)).map wyL) (ck&&true)) rfl (vX (Iy wyL s (k+1))) slT ?_;refine rFx (x:=.osl 24 0 (1+k+s.length - (k+1)) false) (h':=upd (upd _ 17 none) 24 (some (.arr (((([(⟨x.line,x.dirty,x.data⟩:Wy)])++(s.take k))++(s.drop (k+1))).map wyL) 3))) rfl rfl (gU wyL (([(⟨x.line,x.dirty,x.data⟩:Wy)])++(s.take k)) (s.drop (k+1)) omT omT) (⟨by exact omT,by exact omT,trivial⟩)<|oR 1 rfl<|rE 26<|cT ?_;have e:(([(⟨x.line,x.dirty,x.data⟩:Wy)])++(s.take k))++(s.drop (k+1))=eH s k:=(Bj hx).symm;have e2:1+k+s.length - (k+1)=s.length:=by omega
 refine oX (rs:=[.osl 24 0 (1+k+s.length - (k+1)) false]) rfl (r:=.osl 0 0 s.length false) (h':=heapF [(0,.arr ((eH s k).map wyL) 3)]) (σ:=λ _=>24) ⟨rfl,rfl⟩ rfl (cF (λ _=>24) ?_ rfl ⟨⟨rfl,?_,rfl⟩,trivial⟩ rfl)
 ·show AV.osl 24 0 (1+k+s.length - (k+1)) false=.osl 24 0 s.length false;rw[e2]
 ·show some (Blk.arr (((([(⟨x.line,x.dirty,x.data⟩:Wy)])++(s.take k))++(s.drop (k+1))).map wyL) 3)=some (Blk.arr ((eH s k).map wyL) 3);rw[e]
theorem GE(c:Ca)(k:Nat)(s:List Wy)(hok:c.ok)(hk:k<c.sets.length)(hl:c.sets.length≤900000)(hs:s.length≤900000)(ho:∀ x∈s,x.ok):bY C0 154 [.agg (caL c false),vN k,.sl 3 (s.map wyL) false] (.agg (caL (oH c k s) false)):=by
 refine bY.intro c0Ok Tryz.func154 rfl rfl (by kernel_rfl) rfl<|cSR<|rAl 0 rfl rfl<|rAl 1 rfl rfl<|rE 2<|cSR<|oR 2 rfl<|rW (vN c.sets.length) rfl (bQ cB c.sets)<|rFx (x:=.osl 5 0 c.sets.length false) (h':=upd _ 5 (some (.arr (List.replicate c.sets.length [.sl 0 ([]) true]) 1))) rfl rfl (rfl) (⟨aI _,kH _,by show ((c.sets.length:Nat):Int)≤1000000;have:=hl;omega⟩)<|oR 1 rfl<|rE 7<|cSR<|oR 3 rfl ?_;refine rFx (x:=vI ((min ((c.sets.map cB).length) (c.sets.length):Nat):Int)) (h':=upd _ 5 (some (.arr (c.sets.map cB) 1))) rfl rfl (GO (CU cB (List.replicate c.sets.length [.sl 0 ([]) true]) c.sets omT omT)) (⟨by exact omT,trivial⟩)<|rE 11<|cSR<|oR 3 rfl<|nW (.ptr2 5 (0+k) 0) rfl rfl ixT ?_;obtain⟨x1,hx1⟩:∃ x,c.sets[k]?=some x:=⟨_,aA omT⟩;have hx1o:=hok.set x1 (aB hx1);have hx2:(c.sets.set k s)[k]?=some s:=bD omT;refine oE (cB x1) (h':=upd _ 5 (some (.arr ((c.sets.set k s).map cB) 1))) rfl rfl rfl (⟨aI _,Hk (gJ hx1)⟩) (uO (f:=cB) (l:=c.sets) (k:=k) (x:=s))<|rE 16<|cSR<|oR 3 rfl<|rV (.agg [vI c.ways,.osl 5 0 c.sets.length false]) rfl<|rSt rfl<|rE 21<|cT<|eW rfl ⟨trivial,(by show 0+c.sets.length≤((c.sets.set k s).map cB).length;exact omT),trivial⟩ rfl ?_;show AV.agg [vI c.ways,.sl 1 (List.take c.sets.length (List.drop 0 ((c.sets.set k s).map cB))) false]=_;rw[kA cB (c.sets.set k s) omT];refine congrArg (λ z=>AV.agg ((λ z=>caL z false) z)) (?_:(⟨c.ways,c.sets.set k s⟩:Ca)=oH c k s);rfl
theorem xM(c:Ca)(line:Nat)(hok:c.ok)(hline:line≤4294967295):bY C0 114 [.agg (caL c false),vU line] (.tup [vN (bE c line).1,vN ((bE c line).2.getD 0),vB (bE c line).2.isSome]):=by
 refine bY.intro c0Ok Tryz.func114 rfl rfl (by kernel_rfl) rfl<|cSR<|rAl 0 rfl rfl<|oR 3 rfl<|rE 4<|aE<|cSR<|oR 1 rfl<|rCi rfl (Bo c false hok)<|oR 1 rfl<|rE 7 ?_;refine aU rfl (λ h1=>?_) (λ h1=>?_)
 ·refine cSR<|oR 3 rfl<|rE 10<|cT ?_;have hR:fY c=false:=by simpa using h1
  exact fT rfl (by unfold bE;rw[if_neg (by rw[hR];decide)];rfl)
 ·have hR:fY c=true:=by simpa using h1
  obtain⟨hs0,hs4,hw2,hw1,hsw⟩:=jX hR;have hkl:=Aa hs0 (lineOf line);refine aZ<|cSR<|oR 1 rfl<|rCi rfl (qD line hline)<|oR 1 rfl<|rE 10<|cSR<|oR 2 rfl<|rCi rfl (SG c (lineOf line) false hs0 omT (dF hline))<|oR 1 rfl<|rE 14<|cSR<|oR 3 rfl ?_;obtain⟨s,hs⟩:∃ x,c.sets[(xQ c (lineOf line))]?=some x:=⟨_,aA omT⟩;have hso:=hok.set s (aB hs);have hsl:s.length≤2:=by have:=hsw s (aB hs);omega
  refine rIx (cB s) (.dp 1 0 (cB s)) rfl rfl (gJ hs) rfl<|oR 2 rfl<|rCi rfl (SH s (lineOf line) false omT hso.2 (dF hline))<|oR 5 rfl<|rE 26<|cSR<|oR 6 rfl<|rE 32<|cT ?_;exact fT rfl (by rw[qN hR,rG hs];rfl)
theorem Ab(c:Ca)(line:Nat):(bE c line).1≤4∧(bE c line).2.getD 0≤2:=by
 by_cases h:fY c=true
 ·obtain⟨h0,h4,h2,h1,hw⟩:=jX h;rw[qN h];have hlt:=Aa h0 (lineOf line);refine⟨by show xQ _ _≤4;omega,?_⟩;show (jN _ _).getD 0≤2
  cases hp:jN (oT c (xQ c (lineOf line))) (lineOf line)with
  |none=>exact aF _
  |some j=>
   have:=DP hp;rw[rG (aA hlt)]at this;have h3:=hw _ (kV hlt);show j≤2;omega
 ·unfold bE;rw[if_neg h];exact⟨aF _,aF _⟩
theorem GF(c:Ca)(line:Nat)(hok:c.ok)(hline:line≤4294967295):bY C0 118 [.agg (caL c false),vU line] (.agg (caL (sK c line) false)):=by
 refine dc1 (bY.intro c1Ok Tryz.func118 rfl rfl (by kernel_rfl) rfl ?_);have hFb:=Ab c line;refine cSR<|rAl 0 rfl rfl<|rAl 1 rfl rfl<|rE 2<|cSR<|oR 2 rfl<|rCi rfl (xM c line hok hline)<|oR 7 rfl<|rE 12<|aE<|cSR<|oR 2 rfl<|rE 14 ?_;refine aU rfl (λ h1=>?_) (λ h1=>?_)
 ·have hF:(bE c line).2.isSome=false:=by simpa using h1
  refine cSR<|oR 1 rfl<|rSt rfl<|rE 16<|cT ?_;exact eW rfl ⟨trivial,trivial,trivial⟩ rfl (by rw[Cq hF];rfl)
 ·have hF:(bE c line).2.isSome=true:=by simpa using h1
  obtain⟨hR,hF1,hF2,hF3⟩:=nP hF;obtain⟨hs0,hs4,hw2,hw1,hsw⟩:=jX hR;refine aZ<|cSR<|oR 5 rfl ?_;obtain⟨s,hs⟩:∃ x,c.sets[((bE c line).1)]?=some x:=⟨_,aA omT⟩;have hso:=hok.set s (aB hs);have hse:=rG hs;rw[hse]at hF3;have hsl:s.length≤2:=by have:=hsw s (aB hs);omega
  refine rIx (cB s) (.dp 1 0 (cB s)) rfl rfl (gJ hs) rfl<|oR 2 rfl<|rCi rfl (Iw s ((bE c line).2.getD 0) false hF3 omT hso.2)<|rCi rfl (GE c ((bE c line).1) (eH s ((bE c line).2.getD 0)) hok hF2 omT (by rw[lN hF3];omega) (mP hso.2))<|rSt rfl<|rE 25<|cT ?_;exact eW rfl ⟨trivial,trivial,trivial⟩ rfl (by rw[Cp hF,hse];rfl)
theorem DQ{α:Type}{f:α→α}{l:List α}{x:α}(h:l[0]?=some x):modHd f l=l.set 0 (f x):=by
 cases l with
 |nil=>cases h
 |cons y l=>injection h with h;subst h;rfl
theorem Ad{α:Type}(l:List α)(x:α)(n:Nat)(hn:n=l.length):eH (l++[x]) n=x::l:=by
 subst hn;rw[Bj (x:=x) (by simp)];simp
theorem Ll{c:Ca}(h:fY c=false)(line:Nat)(d:ByteArray)(b:Bool):qF c line d b=(c,pC,false):=by unfold qF;rw[if_neg (by rw[h];decide)]
theorem Bk{c:Ca}{line:Nat}(hF:(bE c line).2.isSome=true)(d:ByteArray)(b:Bool):qF c line d b=(oH c (bE c line).1 (modHd (λ w=>{w with data:=if (lG d).size=0 then w.data else lG d,dirty:=w.dirty||b}) (eH (oT c (bE c line).1) ((bE c line).2.getD 0))),pC,false):=by
 unfold qF;obtain⟨j,hj⟩:=Ep.1 hF;have e:bE c line=((bE c line).1,some j):=by rw[←hj]
 rw[if_pos (nP hF).1,e];rfl
theorem uB{c:Ca}{line:Nat}(hR:fY c=true)(hF:(bE c line).2.isSome=false)(d:ByteArray)(b:Bool):qF c line d b=if ((oT c (bE c line).1).length:Int)=c.ways then (oH c (bE c line).1 (⟨lineOf line,b,lG d⟩::(oT c (bE c line).1).dropLast),(oT c (bE c line).1).getLast?.getD pC,true)else (oH c (bE c line).1 (⟨lineOf line,b,lG d⟩::oT c (bE c line).1),pC,false):=by
 unfold qF;have hj:(bE c line).2=none:=by simpa using hF
 have e:bE c line=((bE c line).1,none):=by rw[←hj]
 rw[if_pos hR,e]
abbrev XH(p:Ca×Wy×Bool):AV:=.tup [.agg (caL p.1 false),.agg (wyL p.2.1),vB p.2.2]
theorem sI(d:ByteArray):d.toList.length=d.size:=by
 rw[ByteArray.toList_eq];exact dO
theorem Lm{d:ByteArray}(h: ¬ d.size=0):(!(d.toList==(⟨#[]⟩:ByteArray).toList))=true:=by
 cases hd:d.toList==(⟨#[]⟩:ByteArray).toList with
 |false=>rfl
 |true=>
  have:=congrArg List.length (eq_of_beq hd);rw[sI,sI]at this;exact absurd this h
theorem BO{d:ByteArray}(h: ¬ d.size=16):lG d=mH:=if_neg h
theorem Ay{d:ByteArray}(h:d.size=16):lG d=d:=if_pos h
theorem OP(c:Ca)(line:Nat)(data:ByteArray)(dirty:Bool)(hok:c.ok)(hline:line≤4294967295):bY C0 95 [.agg (caL c false),vU line,.v (.string data),.v (.bool dirty)] (XH (qF c line data dirty)):=by
 refine dc1 (bY.intro c1Ok Tryz.func95 rfl rfl (by kernel_rfl) rfl ?_);have hFb:=Ab c line;refine cSR<|rAl 0 rfl rfl<|rAl 1 rfl rfl<|rAl 2 rfl rfl<|oR 1 rfl<|rE 4<|aE<|cSR<|oR 1 rfl<|rCi rfl (Bo c false hok)<|oR 1 rfl<|rE 7 ?_;refine aU rfl (λ h1=>?_) (λ h1=>?_)
 ·have hR:fY c=false:=by simpa using h1
  refine cSR<|oR 1 rfl<|rV (.agg [zU,vB false,.v (.string (⟨#[]⟩:ByteArray))]) rfl<|rSt rfl<|rSt rfl<|oR 1 rfl<|rE 12<|cT ?_;rw[Ll hR];exact fT rfl rfl
 ·have hR:fY c=true:=by simpa using h1
  obtain⟨hs0,hs4,hw2,hw1,hsw⟩:=jX hR;have hF2:(bE c line).1<c.sets.length:=by rw[qN hR];exact Aa hs0 _
  refine aZ<|aE<|cSR<|oR 1 rfl<|rV (vN data.size) rfl<|rW (vB (data.size != 16)) rfl (okB (neN _ _))<|rE 10 ?_;refine aU rfl (λ h2=>?_) (λ h2=>?_)
  ·have h2p:=vA h2;refine cRg<|oR 1 rfl<|rE 11<|cSR<|oR 2 rfl<|rCi rfl (xM c line hok hline)<|oR 7 rfl<|rE 21<|aE<|cSR<|oR 1 rfl<|rE 22 ?_;refine aU rfl (λ h3=>?_) (λ h3=>?_)
   ·have hF:(bE c line).2.isSome=true:=by simpa using h3
    have hF3:=(nP hF).2.2.2;refine cSR<|oR 3 rfl ?_;obtain⟨s,hs⟩:∃ x,c.sets[((bE c line).1)]?=some x:=⟨_,aA omT⟩;have hso:=hok.set s (aB hs);have hse:=rG hs;have hsl:s.length≤2:=by have:=hsw s (aB hs);omega
    rw[hse]at hF3;have hfl:=lN hF3;refine rIx (cB s) (.dp 1 0 (cB s)) rfl rfl (gJ hs) rfl<|oR 2 rfl<|eE (args:=[.sl 3 (s.map wyL) false,vN ((bE c line).2.getD 0)]) (d:=42) _ rfl rfl rfl ((OO s ((bE c line).2.getD 0) false omT omT hso.2).frame0 _ _ rfl) ?_;rintro _ _ ⟨rfl,rfl⟩;refine oR 1 rfl<|rE 30<|aE<|cSR<|oR 1 rfl<|rV (vB (!((⟨#[]⟩:ByteArray).toList==(⟨#[]⟩:ByteArray).toList))) rfl<|rE 32 ?_;refine aU rfl (λ h4=>by simp at h4) (λ _=>?_);refine aZ<|Ex<|cRg<|oR 2 rfl<|nW (.ptr2 28 (0+0) 0) rfl rfl (⟨by decide,En.2 (by show 0<s.length;exact omT)⟩)<|oR 1 rfl ?_;obtain⟨w,hw⟩:∃ x,(eH s ((bE c line).2.getD 0))[0]?=some x:=⟨_,aA omT⟩;have hwo:=(mP hso.2) w (aB hw);refine Fb (wyL w) (x:=vB w.dirty) rfl rfl rfl (⟨by decide,Hk (gJ hw)⟩) rfl<|oR 1 rfl<|gN rfl<|cH rfl rfl rfl (by simp)<|nW (.ptr2 28 (0+0) 0) rfl rfl (⟨by decide,En.2 (by show 0<s.length;exact omT)⟩)<|oR 1 rfl ?_;have hx1:((eH s ((bE c line).2.getD 0)).set 0 (⟨w.line,cA w.dirty true dirty,w.data⟩:Wy))[0]?=some (⟨w.line,cA w.dirty true dirty,w.data⟩:Wy):=bD omT;refine oE (wyL w) (h':=upd _ 28 (some (.arr (((eH s ((bE c line).2.getD 0)).set 0 (⟨w.line,cA w.dirty true dirty,w.data⟩:Wy)).map wyL) 3))) rfl rfl rfl (⟨by decide,Hk (gJ hw)⟩) (uO (f:=wyL) (l:=eH s ((bE c line).2.getD 0)) (k:=0) (x:=(⟨w.line,cA w.dirty true dirty,w.data⟩:Wy)))<|rE 43<| .mk _ (.step (some (28,3,((eH s ((bE c line).2.getD 0)).set 0 (⟨w.line,cA w.dirty true dirty,w.data⟩:Wy)).map wyL)) (Ghost.of_lists (l:=[(1,vU line),(2,.v (.string (⟨#[]⟩:ByteArray))),(3,vB dirty),(4,.ptr 0 0),(8,.ptr 1 0),(9,.ptr 2 0),(10,vB false),(22,vB (!(fY c))),(27,vB (data.size != 16)),(11,vN ((bE c line).1)),(35,vB ((bE c line).2.isSome)),(14,.sl 3 (((eH s ((bE c line).2.getD 0)).set 0 (⟨w.line,cA w.dirty true dirty,w.data⟩:Wy)).map wyL) false),(44,vB (!((⟨#[]⟩:ByteArray).toList==(⟨#[]⟩:ByteArray).toList)))]) (hp:=[(0,.box [vI c.ways,.sl 1 (c.sets.map cB) false]),(1,.box [vI 0,.sl 0 ([]) true]),(2,.box [zU,vB false,.v (.string (⟨#[]⟩:ByteArray))])]) rfl rfT rbT) (.refl _))<|cSR<|oR 3 rfl<|rCi rfl (GE c ((bE c line).1) ((eH s ((bE c line).2.getD 0)).set 0 (⟨w.line,cA w.dirty true dirty,w.data⟩:Wy)) hok hF2 omT (by first|exact omT|(rw[lN omT];exact omT)) (xN (P:=Wy.ok) (mP hso.2) ⟨hwo.line⟩))<|rV (.agg [zU,vB false,.v (.string (⟨#[]⟩:ByteArray))]) rfl<|rSt rfl<|rSt rfl<|oR 1 rfl<|rE 51<|cT ?_;have hd:lG data=mH:=BO omT;rw[Bk hF,hse,DQ hw,hd];rw[if_pos (show mH.size=0 from rfl)]
    try rw[mU]
    exact fT rfl (by simp only[cOr,mU];rfl)
   ·have hF:(bE c line).2.isSome=false:=by simpa using h3
    refine aZ<|cSR<|oR 3 rfl ?_;obtain⟨s,hs⟩:∃ x,c.sets[((bE c line).1)]?=some x:=⟨_,aA omT⟩;have hso:=hok.set s (aB hs);have hse:=rG hs;have hsl:s.length≤2:=by have:=hsw s (aB hs);omega
    refine rIx (cB s) (.dp 1 0 (cB s)) rfl rfl (gJ hs) rfl<|oR 2 rfl<|rE 28<|aE<|Ba rfl rfl<|rV (.agg [zU,vB false,.v (.string (⟨#[]⟩:ByteArray))]) rfl<|oR 1 rfl<|rW (vN s.length) rfl (bQ wyL s)<|oR 2 rfl<|rV (vB (((s.length:Nat):Int)==c.ways)) rfl<|rAl 34 rfl rfl<|rSt rfl<|oR 1 rfl<|rE 37<|And.intro (by kernel_rfl)<|aE ?_;refine cSR<|oR 1 rfl<|rE 38 ?_;refine aU rfl (λ h5=>?_) (λ h5=>?_)
    ·have h5p:=kX h5
     try have hq:(s.length:Int)=c.ways:=by simpa using h5
     try have hq: ¬ (s.length:Int)=c.ways:=by simpa using h5
     refine cSR<|oR 1 rfl<|rW (vN s.length) rfl (bQ wyL s) ?_;have b1:s.length - 1≤2:=aL (iO _ _) hsl;refine rW (vN (s.length - 1)) rfl (okI (Bm omT hsl rfl))<|oR 1 rfl<|rE 42<|Ba rfl rfl<|oR 2 rfl ?_;obtain⟨g,hg⟩:∃ x,s[(s.length - 1)]?=some x:=⟨_,aA omT⟩;have hgo:=hso.2 g (aB hg);refine rIx (wyL g) (.dp 3 0 (wyL g)) rfl rfl (gJ hg) rfl<|oR 3 rfl ?_;refine nW (.sl 3 ((s.take (s.length - 1)).map wyL) false) rfl (vX (tT wyL s (s.length - 1))) slT ?_;refine rSt rfl<|oR 1 rfl<|rE 51<|And.intro (by kernel_rfl)<|cSR<|oR 1 rfl<|rW (vN (s.length - 1)) rfl (sJ wyL (s.take (s.length - 1)) omT) ?_;have b2:(s.length - 1)+1≤3:=aH (by have:=hsl;exact omT) (aC 1);refine rW (vN ((s.length - 1)+1)) rfl (okI (bS b2 rfl))<|rFx (x:=.osl 54 0 0 false) (h':=upd _ 54 (some (.arr (([]:List Wy).map wyL) 3))) rfl rfl (rfl) (⟨by decide,Eo.2 omT,by show ((((s.length - 1)+1):Nat):Int)≤1000000;omega⟩)<|oR 1 rfl<|rE 56<|cSR<|oR 2 rfl<|rFx (x:=.osl 58 0 (s.length - 1) false) (h':=upd (upd _ 54 none) 58 (some (.arr ((s.take (s.length - 1)).map wyL) 3))) rfl rfl (gU wyL ([]:List Wy) (s.take (s.length - 1)) omT omT) (⟨by exact omT,by exact omT,trivial⟩)<|oR 1 rfl<|rE 60<|Ex<|cRg<|oR 2 rfl<|rCi rfl (qD line hline)<|oR 2 rfl<|rV (.agg [vU (lineOf line),vB dirty,.v (.string (⟨#[]⟩:ByteArray))]) rfl ?_;refine rV (.sl 3 ([[vU (lineOf line),vB dirty,.v (.string (⟨#[]⟩:ByteArray))]]) true) rfl<|rFx (x:=.osl 67 0 ((s.length - 1)+1) false) (h':=upd (upd _ 58 none) 67 (some (.arr (((s.take (s.length - 1))++([(⟨lineOf line,dirty,(⟨#[]⟩:ByteArray)⟩:Wy)])).map wyL) 3))) rfl rfl (gU wyL (s.take (s.length - 1)) ([(⟨lineOf line,dirty,(⟨#[]⟩:ByteArray)⟩:Wy)]) omT omT) (⟨by exact omT,by exact omT,trivial⟩)<|oR 1 rfl<|rE 69<| .mk _ (.step (some (67,3,((s.take (s.length - 1))++([(⟨lineOf line,dirty,(⟨#[]⟩:ByteArray)⟩:Wy)])).map wyL)) (Ghost.of_lists (l:=[(4,.ptr 0 0),(8,.ptr 1 0),(9,.ptr 2 0),(10,vB false),(22,vB (!(fY c))),(27,vB (data.size != 16)),(11,vN ((bE c line).1)),(35,vB ((bE c line).2.isSome)),(15,.sl 3 ((s.take (s.length - 1)).map wyL) false),(16,.ptr 34 0),(17,vB (((s.length:Nat):Int)==c.ways)),(75,vB (((s.length:Nat):Int)==c.ways)),(19,.sl 3 (((s.take (s.length - 1))++([(⟨lineOf line,dirty,(⟨#[]⟩:ByteArray)⟩:Wy)])).map wyL) false)]) (hp:=[(0,.box [vI c.ways,.sl 1 (c.sets.map cB) false]),(1,.box [vI 0,.sl 0 ([]) true]),(2,.box [zU,vB false,.v (.string (⟨#[]⟩:ByteArray))]),(34,.box (wyL g))]) rfl rfT rbT) (.refl _))<|aE<|Ba rfl rfl<|oR 4 rfl<|rW (vN (s.length - 1)) rfl (sJ wyL (s.take (s.length - 1)) omT)<|rCi rfl (Iw ((s.take (s.length - 1))++([(⟨lineOf line,dirty,(⟨#[]⟩:ByteArray)⟩:Wy)])) (s.length - 1) false omT omT (nQ (sW hso.2) (nU (P:=Wy.ok) ⟨(dF hline)⟩)))<|rCi rfl (GE c ((bE c line).1) (eH ((s.take (s.length - 1))++([(⟨lineOf line,dirty,(⟨#[]⟩:ByteArray)⟩:Wy)])) (s.length - 1)) hok hF2 omT (by first|exact omT|(rw[lN omT];exact omT)) (mP (nQ (sW hso.2) (nU (P:=Wy.ok) ⟨(dF hline)⟩))))<|oR 2 rfl<|rSt rfl<|rSt rfl<|oR 1 rfl<|rE 81 ?_;refine And.intro (by kernel_rfl)<|cT ?_;have hd:lG data=mH:=BO omT;rw[uB hR hF,hse,hd,if_pos hq];refine fT rfl ?_;show AV.tup [.agg [vI ((oH c ((bE c line).1) (eH ((s.take (s.length - 1))++([(⟨lineOf line,dirty,(⟨#[]⟩:ByteArray)⟩:Wy)])) (s.length - 1))).ways),.sl 1 (((oH c ((bE c line).1) (eH ((s.take (s.length - 1))++([(⟨lineOf line,dirty,(⟨#[]⟩:ByteArray)⟩:Wy)])) (s.length - 1))).sets).map cB) false],.agg (wyL g),vB (((s.length:Nat):Int)==c.ways)]=_;rw[Ad _ _ _ omT,h5];rw[←dM,show s.getLast?.getD pC=g from by rw[kB,hg];rfl]
     try rfl
    ·have h5p:=kY h5
     try have hq:(s.length:Int)=c.ways:=by simpa using h5
     try have hq: ¬ (s.length:Int)=c.ways:=by simpa using h5
     refine aZ<|cSR<|oR 1 rfl<|rW (vN s.length) rfl (bQ wyL s) ?_;have b3:s.length+1≤3:=aH hsl (aC 1);refine rW (vN (s.length+1)) rfl (okI (bS b3 rfl))<|rFx (x:=.osl 41 0 0 false) (h':=upd _ 41 (some (.arr (([]:List Wy).map wyL) 3))) rfl rfl (rfl) (⟨by decide,Eo.2 omT,by show (((s.length+1):Nat):Int)≤1000000;omega⟩)<|oR 1 rfl<|rE 43<|cSR<|oR 2 rfl<|rFx (x:=.osl 45 0 s.length false) (h':=upd (upd _ 41 none) 45 (some (.arr (s.map wyL) 3))) rfl rfl (gU wyL ([]:List Wy) s omT omT) (⟨by exact omT,by exact omT,trivial⟩)<|oR 1 rfl<|rE 47<|Ex<|cRg<|oR 2 rfl<|rCi rfl (qD line hline)<|oR 2 rfl<|rV (.agg [vU (lineOf line),vB dirty,.v (.string (⟨#[]⟩:ByteArray))]) rfl ?_;refine rV (.sl 3 ([[vU (lineOf line),vB dirty,.v (.string (⟨#[]⟩:ByteArray))]]) true) rfl<|rFx (x:=.osl 54 0 (s.length+1) false) (h':=upd (upd _ 45 none) 54 (some (.arr ((s++([(⟨lineOf line,dirty,(⟨#[]⟩:ByteArray)⟩:Wy)])).map wyL) 3))) rfl rfl (gU wyL s ([(⟨lineOf line,dirty,(⟨#[]⟩:ByteArray)⟩:Wy)]) omT omT) (⟨by exact omT,by exact omT,trivial⟩)<|oR 1 rfl<|rE 56<| .mk _ (.step (some (54,3,(s++([(⟨lineOf line,dirty,(⟨#[]⟩:ByteArray)⟩:Wy)])).map wyL)) (Ghost.of_lists (l:=[(4,.ptr 0 0),(8,.ptr 1 0),(9,.ptr 2 0),(10,vB false),(22,vB (!(fY c))),(27,vB (data.size != 16)),(11,vN ((bE c line).1)),(35,vB ((bE c line).2.isSome)),(15,.sl 3 (s.map wyL) false),(16,.ptr 34 0),(17,vB (((s.length:Nat):Int)==c.ways)),(75,vB (((s.length:Nat):Int)==c.ways)),(19,.sl 3 ((s++([(⟨lineOf line,dirty,(⟨#[]⟩:ByteArray)⟩:Wy)])).map wyL) false)]) (hp:=[(0,.box [vI c.ways,.sl 1 (c.sets.map cB) false]),(1,.box [vI 0,.sl 0 ([]) true]),(2,.box [zU,vB false,.v (.string (⟨#[]⟩:ByteArray))]),(34,.box [zU,vB false,.v (.string (⟨#[]⟩:ByteArray))])]) rfl rfT rbT) (.refl _))<|aE<|Ba rfl rfl<|oR 4 rfl<|rW (vN s.length) rfl (bQ wyL s)<|rCi rfl (Iw (s++([(⟨lineOf line,dirty,(⟨#[]⟩:ByteArray)⟩:Wy)])) s.length false omT omT (nQ hso.2 (nU (P:=Wy.ok) ⟨(dF hline)⟩)))<|rCi rfl (GE c ((bE c line).1) (eH (s++([(⟨lineOf line,dirty,(⟨#[]⟩:ByteArray)⟩:Wy)])) s.length) hok hF2 omT (by first|exact omT|(rw[lN omT];exact omT)) (mP (nQ hso.2 (nU (P:=Wy.ok) ⟨(dF hline)⟩))))<|oR 2 rfl<|rSt rfl<|rSt rfl<|oR 1 rfl<|rE 68 ?_;refine And.intro (by kernel_rfl)<|cT ?_;have hd:lG data=mH:=BO omT;rw[uB hR hF,hse,hd,if_neg hq];refine fT rfl ?_;show AV.tup [.agg [vI ((oH c ((bE c line).1) (eH (s++([(⟨lineOf line,dirty,(⟨#[]⟩:ByteArray)⟩:Wy)])) s.length)).ways),.sl 1 (((oH c ((bE c line).1) (eH (s++([(⟨lineOf line,dirty,(⟨#[]⟩:ByteArray)⟩:Wy)])) s.length)).sets).map cB) false],.agg [zU,vB false,.v (.string (⟨#[]⟩:ByteArray))],vB (((s.length:Nat):Int)==c.ways)]=_;rw[Ad _ _ _ omT,h5]
     try rfl
  ·have h2p:=vC h2;refine aZ<|cSR<|oR 2 rfl<|rCi rfl (xM c line hok hline)<|oR 7 rfl<|rE 20<|aE<|cSR<|oR 1 rfl<|rE 21 ?_;refine aU rfl (λ h6=>?_) (λ h6=>?_)
   ·have hF:(bE c line).2.isSome=true:=by simpa using h6
    have hF3:=(nP hF).2.2.2;refine cSR<|oR 3 rfl ?_;obtain⟨s,hs⟩:∃ x,c.sets[((bE c line).1)]?=some x:=⟨_,aA omT⟩;have hso:=hok.set s (aB hs);have hse:=rG hs;have hsl:s.length≤2:=by have:=hsw s (aB hs);omega
    rw[hse]at hF3;have hfl:=lN hF3;refine rIx (cB s) (.dp 1 0 (cB s)) rfl rfl (gJ hs) rfl<|oR 2 rfl<|eE (args:=[.sl 3 (s.map wyL) false,vN ((bE c line).2.getD 0)]) (d:=42) _ rfl rfl rfl ((OO s ((bE c line).2.getD 0) false omT omT hso.2).frame0 _ _ rfl) ?_;rintro _ _ ⟨rfl,rfl⟩;refine oR 1 rfl<|rE 29<|aE<|cSR<|oR 1 rfl<|rV (vB (!(data.toList==(⟨#[]⟩:ByteArray).toList))) rfl<|rE 31 ?_;refine aU rfl (λ _=>?_) (λ h7=>by rw[Lm omT]at h7;cases h7);refine cRg<|oR 2 rfl<|nW (.ptr2 27 (0+0) 0) rfl rfl (⟨by decide,En.2 (by show 0<s.length;exact omT)⟩)<|oR 1 rfl ?_;obtain⟨w,hw⟩:∃ x,(eH s ((bE c line).2.getD 0))[0]?=some x:=⟨_,aA omT⟩;have hwo:=(mP hso.2) w (aB hw);have hx2:((eH s ((bE c line).2.getD 0)).set 0 (⟨w.line,w.dirty,data⟩:Wy))[0]?=some (⟨w.line,w.dirty,data⟩:Wy):=bD omT;refine oE (wyL w) (h':=upd _ 27 (some (.arr (((eH s ((bE c line).2.getD 0)).set 0 (⟨w.line,w.dirty,data⟩:Wy)).map wyL) 3))) rfl rfl rfl (⟨by decide,Hk (gJ hw)⟩) (uO (f:=wyL) (l:=eH s ((bE c line).2.getD 0)) (k:=0) (x:=(⟨w.line,w.dirty,data⟩:Wy)))<|rE 36<|Ex<|cRg<|oR 2 rfl<|nW (.ptr2 27 (0+0) 0) rfl rfl (⟨by decide,En.2 (by show 0<s.length;exact omT)⟩)<|oR 1 rfl<|Fb (wyL (⟨w.line,w.dirty,data⟩:Wy)) (x:=vB w.dirty) rfl rfl rfl (⟨by decide,Hk (gJ hx2)⟩) rfl<|oR 1 rfl<|gN rfl<|cH rfl rfl rfl (by simp)<|nW (.ptr2 27 (0+0) 0) rfl rfl (⟨by decide,En.2 (by show 0<s.length;exact omT)⟩)<|oR 1 rfl ?_;have hx3:(((eH s ((bE c line).2.getD 0)).set 0 (⟨w.line,w.dirty,data⟩:Wy)).set 0 (⟨w.line,cA w.dirty true dirty,data⟩:Wy))[0]?=some (⟨w.line,cA w.dirty true dirty,data⟩:Wy):=bD omT;refine oE (wyL (⟨w.line,w.dirty,data⟩:Wy)) (h':=upd _ 27 (some (.arr ((((eH s ((bE c line).2.getD 0)).set 0 (⟨w.line,w.dirty,data⟩:Wy)).set 0 (⟨w.line,cA w.dirty true dirty,data⟩:Wy)).map wyL) 3))) rfl rfl rfl (⟨by decide,Hk (gJ hx2)⟩) (uO (f:=wyL) (l:=(eH s ((bE c line).2.getD 0)).set 0 (⟨w.line,w.dirty,data⟩:Wy)) (k:=0) (x:=(⟨w.line,cA w.dirty true dirty,data⟩:Wy)))<|rE 47<| .mk _ (.step (some (27,3,(((eH s ((bE c line).2.getD 0)).set 0 (⟨w.line,w.dirty,data⟩:Wy)).set 0 (⟨w.line,cA w.dirty true dirty,data⟩:Wy)).map wyL)) (Ghost.of_lists (l:=[(1,vU line),(2,.v (.string data)),(3,vB dirty),(4,.ptr 0 0),(8,.ptr 1 0),(9,.ptr 2 0),(10,vB false),(22,vB (!(fY c))),(27,vB (data.size != 16)),(11,vN ((bE c line).1)),(35,vB ((bE c line).2.isSome)),(14,.sl 3 ((((eH s ((bE c line).2.getD 0)).set 0 (⟨w.line,w.dirty,data⟩:Wy)).set 0 (⟨w.line,cA w.dirty true dirty,data⟩:Wy)).map wyL) false),(44,vB (!(data.toList==(⟨#[]⟩:ByteArray).toList)))]) (hp:=[(0,.box [vI c.ways,.sl 1 (c.sets.map cB) false]),(1,.box [vI 0,.sl 0 ([]) true]),(2,.box [zU,vB false,.v (.string (⟨#[]⟩:ByteArray))])]) rfl rfT rbT) (.refl _))<|cSR<|oR 3 rfl<|rCi rfl (GE c ((bE c line).1) (((eH s ((bE c line).2.getD 0)).set 0 (⟨w.line,w.dirty,data⟩:Wy)).set 0 (⟨w.line,cA w.dirty true dirty,data⟩:Wy)) hok hF2 omT (by first|exact omT|(rw[lN omT];exact omT)) (xN (P:=Wy.ok) (xN (P:=Wy.ok) (mP hso.2) ⟨hwo.line⟩) ⟨hwo.line⟩))<|rV (.agg [zU,vB false,.v (.string (⟨#[]⟩:ByteArray))]) rfl<|rSt rfl<|rSt rfl<|oR 1 rfl<|rE 55<|cT ?_;have hd:lG data=data:=Ay omT;rw[Bk hF,hse,DQ hw,hd];rw[if_neg (show ¬ data.size=0 by omega)]
    try rw[mU]
    try rw[mU]
    exact fT rfl (by simp only[cOr,mU];rfl)
   ·have hF:(bE c line).2.isSome=false:=by simpa using h6
    refine aZ<|cSR<|oR 3 rfl ?_;obtain⟨s,hs⟩:∃ x,c.sets[((bE c line).1)]?=some x:=⟨_,aA omT⟩;have hso:=hok.set s (aB hs);have hse:=rG hs;have hsl:s.length≤2:=by have:=hsw s (aB hs);omega
    refine rIx (cB s) (.dp 1 0 (cB s)) rfl rfl (gJ hs) rfl<|oR 2 rfl<|rE 27<|aE<|Ba rfl rfl<|rV (.agg [zU,vB false,.v (.string (⟨#[]⟩:ByteArray))]) rfl<|oR 1 rfl<|rW (vN s.length) rfl (bQ wyL s)<|oR 2 rfl<|rV (vB (((s.length:Nat):Int)==c.ways)) rfl<|rAl 33 rfl rfl<|rSt rfl<|oR 1 rfl<|rE 36<|And.intro (by kernel_rfl)<|aE ?_;refine cSR<|oR 1 rfl<|rE 37 ?_;refine aU rfl (λ h8=>?_) (λ h8=>?_)
    ·have h8p:=kX h8
     try have hq:(s.length:Int)=c.ways:=by simpa using h8
     try have hq: ¬ (s.length:Int)=c.ways:=by simpa using h8
     refine cSR<|oR 1 rfl<|rW (vN s.length) rfl (bQ wyL s) ?_;have b4:s.length - 1≤2:=aL (iO _ _) hsl;refine rW (vN (s.length - 1)) rfl (okI (Bm omT hsl rfl))<|oR 1 rfl<|rE 41<|Ba rfl rfl<|oR 2 rfl ?_;obtain⟨g,hg⟩:∃ x,s[(s.length - 1)]?=some x:=⟨_,aA omT⟩;have hgo:=hso.2 g (aB hg);refine rIx (wyL g) (.dp 3 0 (wyL g)) rfl rfl (gJ hg) rfl<|oR 3 rfl ?_;refine nW (.sl 3 ((s.take (s.length - 1)).map wyL) false) rfl (vX (tT wyL s (s.length - 1))) slT ?_;refine rSt rfl<|oR 1 rfl<|rE 50<|And.intro (by kernel_rfl)<|cSR<|oR 1 rfl<|rW (vN (s.length - 1)) rfl (sJ wyL (s.take (s.length - 1)) omT) ?_;have b5:(s.length - 1)+1≤3:=aH (by have:=hsl;exact omT) (aC 1);refine rW (vN ((s.length - 1)+1)) rfl (okI (bS b5 rfl))<|rFx (x:=.osl 53 0 0 false) (h':=upd _ 53 (some (.arr (([]:List Wy).map wyL) 3))) rfl rfl (rfl) (⟨by decide,Eo.2 omT,by show ((((s.length - 1)+1):Nat):Int)≤1000000;omega⟩)<|oR 1 rfl<|rE 55<|cSR<|oR 2 rfl<|rFx (x:=.osl 57 0 (s.length - 1) false) (h':=upd (upd _ 53 none) 57 (some (.arr ((s.take (s.length - 1)).map wyL) 3))) rfl rfl (gU wyL ([]:List Wy) (s.take (s.length - 1)) omT omT) (⟨by exact omT,by exact omT,trivial⟩)<|oR 1 rfl<|rE 59<|Ex<|cRg<|oR 2 rfl<|rCi rfl (qD line hline)<|oR 2 rfl<|rV (.agg [vU (lineOf line),vB dirty,.v (.string data)]) rfl ?_;refine rV (.sl 3 ([[vU (lineOf line),vB dirty,.v (.string data)]]) true) rfl<|rFx (x:=.osl 66 0 ((s.length - 1)+1) false) (h':=upd (upd _ 57 none) 66 (some (.arr (((s.take (s.length - 1))++([(⟨lineOf line,dirty,data⟩:Wy)])).map wyL) 3))) rfl rfl (gU wyL (s.take (s.length - 1)) ([(⟨lineOf line,dirty,data⟩:Wy)]) omT omT) (⟨by exact omT,by exact omT,trivial⟩)<|oR 1 rfl<|rE 68<| .mk _ (.step (some (66,3,((s.take (s.length - 1))++([(⟨lineOf line,dirty,data⟩:Wy)])).map wyL)) (Ghost.of_lists (l:=[(4,.ptr 0 0),(8,.ptr 1 0),(9,.ptr 2 0),(10,vB false),(22,vB (!(fY c))),(27,vB (data.size != 16)),(11,vN ((bE c line).1)),(35,vB ((bE c line).2.isSome)),(15,.sl 3 ((s.take (s.length - 1)).map wyL) false),(16,.ptr 33 0),(17,vB (((s.length:Nat):Int)==c.ways)),(75,vB (((s.length:Nat):Int)==c.ways)),(19,.sl 3 (((s.take (s.length - 1))++([(⟨lineOf line,dirty,data⟩:Wy)])).map wyL) false)]) (hp:=[(0,.box [vI c.ways,.sl 1 (c.sets.map cB) false]),(1,.box [vI 0,.sl 0 ([]) true]),(2,.box [zU,vB false,.v (.string (⟨#[]⟩:ByteArray))]),(33,.box (wyL g))]) rfl rfT rbT) (.refl _))<|aE<|Ba rfl rfl<|oR 4 rfl<|rW (vN (s.length - 1)) rfl (sJ wyL (s.take (s.length - 1)) omT)<|rCi rfl (Iw ((s.take (s.length - 1))++([(⟨lineOf line,dirty,data⟩:Wy)])) (s.length - 1) false omT omT (nQ (sW hso.2) (nU (P:=Wy.ok) ⟨(dF hline)⟩)))<|rCi rfl (GE c ((bE c line).1) (eH ((s.take (s.length - 1))++([(⟨lineOf line,dirty,data⟩:Wy)])) (s.length - 1)) hok hF2 omT (by first|exact omT|(rw[lN omT];exact omT)) (mP (nQ (sW hso.2) (nU (P:=Wy.ok) ⟨(dF hline)⟩))))<|oR 2 rfl<|rSt rfl<|rSt rfl<|oR 1 rfl<|rE 80 ?_;refine And.intro (by kernel_rfl)<|cT ?_;have hd:lG data=data:=Ay omT;rw[uB hR hF,hse,hd,if_pos hq];refine fT rfl ?_;show AV.tup [.agg [vI ((oH c ((bE c line).1) (eH ((s.take (s.length - 1))++([(⟨lineOf line,dirty,data⟩:Wy)])) (s.length - 1))).ways),.sl 1 (((oH c ((bE c line).1) (eH ((s.take (s.length - 1))++([(⟨lineOf line,dirty,data⟩:Wy)])) (s.length - 1))).sets).map cB) false],.agg (wyL g),vB (((s.length:Nat):Int)==c.ways)]=_;rw[Ad _ _ _ omT,h8];rw[←dM,show s.getLast?.getD pC=g from by rw[kB,hg];rfl]
     try rfl
    ·have h8p:=kY h8
     try have hq:(s.length:Int)=c.ways:=by simpa using h8
     try have hq: ¬ (s.length:Int)=c.ways:=by simpa using h8
     refine aZ<|cSR<|oR 1 rfl<|rW (vN s.length) rfl (bQ wyL s) ?_;have b6:s.length+1≤3:=aH hsl (aC 1);refine rW (vN (s.length+1)) rfl (okI (bS b6 rfl))<|rFx (x:=.osl 40 0 0 false) (h':=upd _ 40 (some (.arr (([]:List Wy).map wyL) 3))) rfl rfl (rfl) (⟨by decide,Eo.2 omT,by show (((s.length+1):Nat):Int)≤1000000;omega⟩)<|oR 1 rfl<|rE 42<|cSR<|oR 2 rfl<|rFx (x:=.osl 44 0 s.length false) (h':=upd (upd _ 40 none) 44 (some (.arr (s.map wyL) 3))) rfl rfl (gU wyL ([]:List Wy) s omT omT) (⟨by exact omT,by exact omT,trivial⟩)<|oR 1 rfl<|rE 46<|Ex<|cRg<|oR 2 rfl<|rCi rfl (qD line hline)<|oR 2 rfl<|rV (.agg [vU (lineOf line),vB dirty,.v (.string data)]) rfl ?_;refine rV (.sl 3 ([[vU (lineOf line),vB dirty,.v (.string data)]]) true) rfl<|rFx (x:=.osl 53 0 (s.length+1) false) (h':=upd (upd _ 44 none) 53 (some (.arr ((s++([(⟨lineOf line,dirty,data⟩:Wy)])).map wyL) 3))) rfl rfl (gU wyL s ([(⟨lineOf line,dirty,data⟩:Wy)]) omT omT) (⟨by exact omT,by exact omT,trivial⟩)<|oR 1 rfl<|rE 55<| .mk _ (.step (some (53,3,(s++([(⟨lineOf line,dirty,data⟩:Wy)])).map wyL)) (Ghost.of_lists (l:=[(4,.ptr 0 0),(8,.ptr 1 0),(9,.ptr 2 0),(10,vB false),(22,vB (!(fY c))),(27,vB (data.size != 16)),(11,vN ((bE c line).1)),(35,vB ((bE c line).2.isSome)),(15,.sl 3 (s.map wyL) false),(16,.ptr 33 0),(17,vB (((s.length:Nat):Int)==c.ways)),(75,vB (((s.length:Nat):Int)==c.ways)),(19,.sl 3 ((s++([(⟨lineOf line,dirty,data⟩:Wy)])).map wyL) false)]) (hp:=[(0,.box [vI c.ways,.sl 1 (c.sets.map cB) false]),(1,.box [vI 0,.sl 0 ([]) true]),(2,.box [zU,vB false,.v (.string (⟨#[]⟩:ByteArray))]),(33,.box [zU,vB false,.v (.string (⟨#[]⟩:ByteArray))])]) rfl rfT rbT) (.refl _))<|aE<|Ba rfl rfl<|oR 4 rfl<|rW (vN s.length) rfl (bQ wyL s)<|rCi rfl (Iw (s++([(⟨lineOf line,dirty,data⟩:Wy)])) s.length false omT omT (nQ hso.2 (nU (P:=Wy.ok) ⟨(dF hline)⟩)))<|rCi rfl (GE c ((bE c line).1) (eH (s++([(⟨lineOf line,dirty,data⟩:Wy)])) s.length) hok hF2 omT (by first|exact omT|(rw[lN omT];exact omT)) (mP (nQ hso.2 (nU (P:=Wy.ok) ⟨(dF hline)⟩))))<|oR 2 rfl<|rSt rfl<|rSt rfl<|oR 1 rfl<|rE 67 ?_;refine And.intro (by kernel_rfl)<|cT ?_;have hd:lG data=data:=Ay omT;rw[uB hR hF,hse,hd,if_neg hq];refine fT rfl ?_;show AV.tup [.agg [vI ((oH c ((bE c line).1) (eH (s++([(⟨lineOf line,dirty,data⟩:Wy)])) s.length)).ways),.sl 1 (((oH c ((bE c line).1) (eH (s++([(⟨lineOf line,dirty,data⟩:Wy)])) s.length)).sets).map cB) false],.agg [zU,vB false,.v (.string (⟨#[]⟩:ByteArray))],vB (((s.length:Nat):Int)==c.ways)]=_;rw[Ad _ _ _ omT,h8]
     try rfl
theorem Al(d:ByteArray):(d.toList==(⟨#[]⟩:ByteArray).toList)=decide (d.size=0):=by
 by_cases h:d.size=0
 ·rw[pH h];have e:d.toList=(⟨#[]⟩:ByteArray).toList:=by rw[ByteArray.toList_eq,ByteArray.toList_eq];exact bF (by rw[dO];exact h)
  rw[e];exact beq_self_eq_true _
 ·rw[rM h];have:=Lm h;simpa using this
theorem TQ{a:Nat}(h:a≤4294967295):IntKind.wrap .u32 ((a:Int) - ((lineOf a:Nat):Int))=((a % 16:Nat):Int):=by
 rw[Se (B:=4294967295) (dF h) rfl];have:(a+4294967296 - lineOf a) % 4294967296=a % 16:=by unfold lineOf;omega
 rw[this]
theorem Rm{c:Ca}{k j:Nat}{s:List Wy}{x:Wy}(hR:fY c=true)(hs:c.sets[k]?=some s)(hx:s[j]?=some x):x.data.size=0∨x.data.size=16:=
 (((mA c k s).1 (((mF c).1 hR).2 k s hs)).2 j x hx).2.2.1
theorem Fr{c:Ca}{addr:Nat}(b:ByteArray)(hF:(bE c addr).2.isSome=false):wC c addr b=(c,false):=by
 unfold wC;have hj:(bE c addr).2=none:=by simpa using hF
 have e:bE c addr=((bE c addr).1,none):=by rw[←hj]
 rw[e]
theorem zG{c:Ca}{addr:Nat}{s:List Wy}{x:Wy}(b:ByteArray)(hF:(bE c addr).2.isSome=true)(hs:oT c (bE c addr).1=s)(hx:s[(bE c addr).2.getD 0]?=some x):
  wC c addr b=if x.data.size=0∨b.size+addr % 16>16 then (c,false)else (oH c (bE c addr).1 (modHd (λ w=>{w with data:=DW w.data (addr % 16) b,dirty:=true}) (eH s ((bE c addr).2.getD 0))),true):=by
 unfold wC;obtain⟨j,hj⟩:=Ep.1 hF;have e:bE c addr=((bE c addr).1,some j):=by rw[←hj]
 rw[hj]at hx⊢;have hx':(oT c (bE c addr).1)[j]?=some x:=by rw[hs];exact hx
 rw[e];have hx2:s[j]?=some x:=hx;simp only[hs,hx2];rfl
theorem OQ{α:Type}{l:List α}{k:Nat}{x:α}(h:l[k]?=some x):(eH l k)[0]?=some x:=by rw[Bj h];rfl
abbrev wrA(p:Ca×Bool):AV:=.tup [.agg (caL p.1 false),vB p.2]
theorem Rn(c:Ca)(addr:Nat)(bytes:ByteArray)(hok:c.ok)(hline:addr≤4294967295):bY C0 174 [.agg (caL c false),vU addr,.v (.string bytes)] (wrA (wC c addr bytes)):=by
 refine dc1 (bY.intro c1Ok Tryz.func174 rfl rfl (by kernel_rfl) rfl ?_);have hFb:=Ab c addr;refine cSR<|rAl 0 rfl rfl<|rAl 1 rfl rfl<|oR 1 rfl<|rE 3<|cSR<|oR 2 rfl<|rCi rfl (xM c addr hok hline)<|oR 7 rfl<|rE 13<|aE<|cSR<|oR 2 rfl ?_;refine rE 15 ?_;refine aU rfl (λ h1=>?_) (λ h1=>?_)
 ·have hF:(bE c addr).2.isSome=false:=by simpa using h1
  refine cSR<|oR 1 rfl<|rSt rfl<|oR 1 rfl<|rE 18<|cT ?_;rw[Fr bytes hF];exact fT rfl rfl
 ·have hF:(bE c addr).2.isSome=true:=by simpa using h1
  obtain⟨hR,hF1,hF2,hF3⟩:=nP hF;obtain⟨hs0,hs4,hw2,hw1,hsw⟩:=jX hR;refine aZ<|cSR<|oR 3 rfl ?_;obtain⟨s,hs⟩:∃ x,c.sets[((bE c addr).1)]?=some x:=⟨_,aA omT⟩;have hso:=hok.set s (aB hs);have hse:=rG hs;rw[hse]at hF3;have hsl:s.length≤2:=by have:=hsw s (aB hs);omega
  have hfl:=lN hF3;refine rIx (cB s) (.dp 1 0 (cB s)) rfl rfl (gJ hs) rfl<|oR 2 rfl ?_;obtain⟨x,hx⟩:∃ x,s[((bE c addr).2.getD 0)]?=some x:=⟨_,aA omT⟩;have hxo:=hso.2 x (aB hx);have hxs:=Rm hR hs hx;refine rIx (wyL x) (.dp 3 0 (wyL x)) rfl rfl (gJ hx) rfl<|oR 3 rfl<|rE 25<|cSR<|oR 2 rfl<|rCi rfl (qD addr hline) ?_;have b1:addr % 16≤15:=by omega
  refine rW (vU (addr % 16)) rfl (okI (TQ hline))<|rW (vN (addr % 16)) rfl (okI (bS b1 rfl))<|oR 1 rfl<|rE 31<|aE<|cSR<|oR 1 rfl<|rV (vB (x.data.toList==(⟨#[]⟩:ByteArray).toList)) rfl<|oR 1 rfl<|gN rfl<|gBS (x:=vN bytes.size) rfl id rfl<|gN rfl ?_;have b2:16 - (addr % 16)≤16:=aL (iO _ _) (aC 16);refine gBS (x:=vN (16 - (addr % 16))) rfl id (okI (Bm omT (aC 16) rfl))<|gBS (x:=vB (decide (bytes.size>(16 - (addr % 16))))) rfl hsT (okB (gtN _ _))<|cH rfl rfl rfl (by simp)<|rE 40 ?_;refine aU rfl (λ h2=>?_) (λ h2=>?_)
  ·have hq:(x.data.size=0∨bytes.size>16 - addr % 16):=by have z:=h2;rw[Al]at z;simp only[cOr,dG,bC,dT,lL]at z;omega
   refine cSR<|oR 1 rfl<|rSt rfl<|oR 1 rfl<|rE 43<|cT ?_;rw[zG bytes hF hse hx,if_pos omT];exact fT rfl rfl
  ·have hq: ¬ (x.data.size=0∨bytes.size>16 - addr % 16):=by have z:=h2;rw[Al]at z;simp only[cOr,dG,bC,dT,lL]at z;omega
   have hx16:x.data.size=16:=by omega
   have hb16:bytes.size≤16 - addr % 16:=by omega
   refine aZ<|cSR<|oR 3 rfl<|rIx (cB s) (.dp 1 0 (cB s)) rfl rfl (gJ hs) rfl<|oR 2 rfl<|eE (args:=[.sl 3 (s.map wyL) false,vN ((bE c addr).2.getD 0)]) (d:=54) _ rfl rfl rfl ((OO s ((bE c addr).2.getD 0) false omT omT hso.2).frame0 _ _ rfl) ?_;rintro _ _ ⟨rfl,rfl⟩;refine oR 1 rfl<|rE 48<|cSR<|oR 3 rfl ?_;refine nW (.v (.string (x.data.extract 0 (addr % 16)))) rfl rfl (by refine⟨?_,?_,?_⟩<;>(first|exact aI _|decide|(apply Eo.2;exact omT))) ?_;refine oR 1 rfl<|nW (.v (.string ((x.data.extract 0 (addr % 16))++bytes))) rfl rfl (by show (_:Int)≤9223372036854775807;simp[eL,dU];omega)<|oR 3 rfl<|rV (vN bytes.size) rfl ?_;have b3:(addr % 16)+bytes.size≤31:=aH b1 (show bytes.size≤16 by omega);refine rW (vN ((addr % 16)+bytes.size)) rfl (okI (bS b3 rfl)) ?_;refine nW (.v (.string (x.data.extract ((addr % 16)+bytes.size) x.data.size))) rfl rfl (by refine⟨?_,?_,?_⟩<;>(first|exact aI _|decide|(apply Eo.2;exact omT))) ?_;refine nW (.v (.string (((x.data.extract 0 (addr % 16))++bytes)++(x.data.extract ((addr % 16)+bytes.size) x.data.size)))) rfl rfl (by show (_:Int)≤9223372036854775807;simp[eL,dU];omega)<|nW (.ptr2 46 (0+0) 0) rfl rfl (⟨by decide,En.2 (by show 0<s.length;exact omT)⟩)<|oR 1 rfl ?_;obtain⟨w,hw⟩:∃ x,(eH s ((bE c addr).2.getD 0))[0]?=some x:=⟨_,aA omT⟩;have hwo:=(mP hso.2) w (aB hw);have hxw:w=x:=Option.some.inj (hw.symm.trans (OQ hx));have hx1:((eH s ((bE c addr).2.getD 0)).set 0 (⟨w.line,w.dirty,((x.data.extract 0 (addr % 16))++bytes)++(x.data.extract ((addr % 16)+bytes.size) x.data.size)⟩:Wy))[0]?=some (⟨w.line,w.dirty,((x.data.extract 0 (addr % 16))++bytes)++(x.data.extract ((addr % 16)+bytes.size) x.data.size)⟩:Wy):=bD omT;refine oE (wyL w) (h':=upd _ 46 (some (.arr (((eH s ((bE c addr).2.getD 0)).set 0 (⟨w.line,w.dirty,((x.data.extract 0 (addr % 16))++bytes)++(x.data.extract ((addr % 16)+bytes.size) x.data.size)⟩:Wy)).map wyL) 3))) rfl rfl rfl (⟨by decide,Hk (gJ hw)⟩) (uO (f:=wyL) (l:=eH s ((bE c addr).2.getD 0)) (k:=0) (x:=(⟨w.line,w.dirty,((x.data.extract 0 (addr % 16))++bytes)++(x.data.extract ((addr % 16)+bytes.size) x.data.size)⟩:Wy)))<|rE 64<|Ex<|cRg<|oR 1 rfl<|nW (.ptr2 46 (0+0) 0) rfl rfl (⟨by decide,En.2 (by show 0<s.length;exact omT)⟩)<|oR 1 rfl ?_;have hx2:(((eH s ((bE c addr).2.getD 0)).set 0 (⟨w.line,w.dirty,((x.data.extract 0 (addr % 16))++bytes)++(x.data.extract ((addr % 16)+bytes.size) x.data.size)⟩:Wy)).set 0 (⟨w.line,true,((x.data.extract 0 (addr % 16))++bytes)++(x.data.extract ((addr % 16)+bytes.size) x.data.size)⟩:Wy))[0]?=some (⟨w.line,true,((x.data.extract 0 (addr % 16))++bytes)++(x.data.extract ((addr % 16)+bytes.size) x.data.size)⟩:Wy):=bD omT
   refine oE (wyL (⟨w.line,w.dirty,((x.data.extract 0 (addr % 16))++bytes)++(x.data.extract ((addr % 16)+bytes.size) x.data.size)⟩:Wy)) (h':=upd _ 46 (some (.arr ((((eH s ((bE c addr).2.getD 0)).set 0 (⟨w.line,w.dirty,((x.data.extract 0 (addr % 16))++bytes)++(x.data.extract ((addr % 16)+bytes.size) x.data.size)⟩:Wy)).set 0 (⟨w.line,true,((x.data.extract 0 (addr % 16))++bytes)++(x.data.extract ((addr % 16)+bytes.size) x.data.size)⟩:Wy)).map wyL) 3))) rfl rfl rfl (⟨by decide,Hk (gJ hx1)⟩) (uO (f:=wyL) (l:=(eH s ((bE c addr).2.getD 0)).set 0 (⟨w.line,w.dirty,((x.data.extract 0 (addr % 16))++bytes)++(x.data.extract ((addr % 16)+bytes.size) x.data.size)⟩:Wy)) (k:=0) (x:=(⟨w.line,true,((x.data.extract 0 (addr % 16))++bytes)++(x.data.extract ((addr % 16)+bytes.size) x.data.size)⟩:Wy)))<|rE 68<| .mk _ (.step (some (46,3,(((eH s ((bE c addr).2.getD 0)).set 0 (⟨w.line,w.dirty,((x.data.extract 0 (addr % 16))++bytes)++(x.data.extract ((addr % 16)+bytes.size) x.data.size)⟩:Wy)).set 0 (⟨w.line,true,((x.data.extract 0 (addr % 16))++bytes)++(x.data.extract ((addr % 16)+bytes.size) x.data.size)⟩:Wy)).map wyL)) (Ghost.of_lists (l:=[(3,.ptr 0 0),(6,.ptr 1 0),(7,vB false),(8,vN ((bE c addr).1)),(22,vB (!((bE c addr).2.isSome))),(46,vB (cA (x.data.toList==(⟨#[]⟩:ByteArray).toList) true (decide (bytes.size>(16 - (addr % 16)))))),(13,.sl 3 ((((eH s ((bE c addr).2.getD 0)).set 0 (⟨w.line,w.dirty,((x.data.extract 0 (addr % 16))++bytes)++(x.data.extract ((addr % 16)+bytes.size) x.data.size)⟩:Wy)).set 0 (⟨w.line,true,((x.data.extract 0 (addr % 16))++bytes)++(x.data.extract ((addr % 16)+bytes.size) x.data.size)⟩:Wy)).map wyL) false)]) (hp:=[(0,.box [vI c.ways,.sl 1 (c.sets.map cB) false]),(1,.box [vI 0,.sl 0 ([]) true])]) rfl rfT rbT) (.refl _))<|cSR<|oR 3 rfl<|rCi rfl (GE c ((bE c addr).1) (((eH s ((bE c addr).2.getD 0)).set 0 (⟨w.line,w.dirty,((x.data.extract 0 (addr % 16))++bytes)++(x.data.extract ((addr % 16)+bytes.size) x.data.size)⟩:Wy)).set 0 (⟨w.line,true,((x.data.extract 0 (addr % 16))++bytes)++(x.data.extract ((addr % 16)+bytes.size) x.data.size)⟩:Wy)) hok hF2 omT (by first|exact omT|(rw[lN omT];exact omT)) (xN (P:=Wy.ok) (xN (P:=Wy.ok) (mP hso.2) ⟨hwo.line⟩) ⟨hwo.line⟩))<|rSt rfl<|oR 1 rfl<|rE 74<|cT ?_;subst hxw;rw[zG bytes hF hse hx,if_neg omT,DQ hw];exact fT rfl (by first|rfl|(simp only[mU];rfl))
theorem Mx{α:Type}{f:α→α}{l:List α}{k:Nat}{x:α}(h:l[k]?=some x):l.modify k f=l.set k (f x):=by
 apply dQ;intro i;rw[nK,pS];obtain⟨hk,rfl⟩:=Db.1 h;by_cases e:k=i
 ·subst e;simp[hk]
 ·simp[e]
theorem Cr{c:Ca}{line:Nat}{s:List Wy}(hF:(bE c line).2.isSome=true)(hs:oT c (bE c line).1=s):uR c line=oH c (bE c line).1 (s.modify ((bE c line).2.getD 0) λ w=>{w with dirty:=false}):=by
 unfold uR;obtain⟨j,hj⟩:=Ep.1 hF;have e:bE c line=((bE c line).1,some j):=by rw[←hj]
 rw[hj,e];simp only[hs];rfl
theorem Cs{c:Ca}{line:Nat}(hF:(bE c line).2.isSome=false):uR c line=c:=by
 unfold uR;have hj:(bE c line).2=none:=by simpa using hF
 have e:bE c line=((bE c line).1,none):=by rw[←hj]
 rw[e]
theorem GG(c:Ca)(line:Nat)(hok:c.ok)(hline:line≤4294967295):bY C0 122 [.agg (caL c false),vU line] (.agg (caL (uR c line) false)):=by
 refine dc1 (bY.intro c1Ok Tryz.func122 rfl rfl (by kernel_rfl) rfl ?_);have hFb:=Ab c line;refine cSR<|rAl 0 rfl rfl<|rAl 1 rfl rfl<|rE 2<|cSR<|oR 2 rfl<|rCi rfl (xM c line hok hline)<|oR 7 rfl<|rE 12<|aE<|cSR<|oR 2 rfl<|rE 14 ?_;refine aU rfl (λ h1=>?_) (λ h1=>?_)
 ·have hF:(bE c line).2.isSome=false:=by simpa using h1
  refine cSR<|oR 1 rfl<|rSt rfl<|rE 16<|cT ?_;rw[Cs hF];exact eW rfl ⟨trivial,trivial,trivial⟩ rfl rfl
 ·have hF:(bE c line).2.isSome=true:=by simpa using h1
  obtain⟨hR,hF1,hF2,hF3⟩:=nP hF;obtain⟨hs0,hs4,hw2,hw1,hsw⟩:=jX hR;refine aZ<|cSR<|oR 3 rfl ?_;obtain⟨s,hs⟩:∃ x,c.sets[((bE c line).1)]?=some x:=⟨_,aA omT⟩;have hso:=hok.set s (aB hs);have hse:=rG hs;rw[hse]at hF3;have hsl:s.length≤2:=by have:=hsw s (aB hs);omega
  have hfl:=lN hF3;refine rIx (cB s) (.dp 1 0 (cB s)) rfl rfl (gJ hs) rfl<|oR 1 rfl<|rW (vN s.length) rfl (bQ wyL s)<|rFx (x:=.osl 20 0 s.length false) (h':=upd _ 20 (some (.arr ((List.replicate s.length pC).map wyL) 3))) rfl rfl (OT (gI (f:=wyL) (a:=pC)).symm) (⟨aI _,Eo.2 omT,by show ((s.length:Nat):Int)≤1000000;omega⟩)<|oR 1 rfl<|rE 22<|cSR<|oR 4 rfl<|rIx (cB s) (.dp 1 0 (cB s)) rfl rfl (gJ hs) rfl<|oR 1 rfl<|rFx (x:=vI ((min ((s.map wyL).length) (s.length):Nat):Int)) (h':=upd _ 20 (some (.arr (s.map wyL) 3))) rfl rfl (GO (CU wyL ((List.replicate s.length pC).map wyL) s omT omT)) (⟨by exact omT,trivial⟩)<|rE 29<|Ex<|cRg<|oR 2 rfl ?_;refine nW (.ptr2 20 (0+((bE c line).2.getD 0)) 0) rfl rfl (⟨aI _,En.2 (by show ((bE c line).2.getD 0)<s.length;exact omT)⟩)<|oR 1 rfl ?_;obtain⟨x,hx⟩:∃ x,s[((bE c line).2.getD 0)]?=some x:=⟨_,aA omT⟩;have hxo:=hso.2 x (aB hx);have hx1:(s.set ((bE c line).2.getD 0) (⟨x.line,false,x.data⟩:Wy))[((bE c line).2.getD 0)]?=some (⟨x.line,false,x.data⟩:Wy):=bD omT;refine oE (wyL x) (h':=upd _ 20 (some (.arr ((s.set ((bE c line).2.getD 0) (⟨x.line,false,x.data⟩:Wy)).map wyL) 3))) rfl rfl rfl (⟨aI _,Hk (gJ hx)⟩) (uO (f:=wyL) (l:=s) (k:=((bE c line).2.getD 0)) (x:=(⟨x.line,false,x.data⟩:Wy)))<|rE 34<| .mk _ (.step (some (20,3,(s.set ((bE c line).2.getD 0) (⟨x.line,false,x.data⟩:Wy)).map wyL)) (Ghost.of_lists (l:=[(2,.ptr 0 0),(4,.ptr 1 0),(5,vN ((bE c line).1)),(17,vB (!((bE c line).2.isSome))),(8,.sl 3 ((s.set ((bE c line).2.getD 0) (⟨x.line,false,x.data⟩:Wy)).map wyL) false)]) (hp:=[(0,.box [vI c.ways,.sl 1 (c.sets.map cB) false]),(1,.box [vI 0,.sl 0 ([]) true])]) rfl rfT rbT) (.refl _))<|cSR<|oR 3 rfl<|rCi rfl (GE c ((bE c line).1) (s.set ((bE c line).2.getD 0) (⟨x.line,false,x.data⟩:Wy)) hok hF2 omT omT (xN (P:=Wy.ok) hso.2 ⟨hxo.line⟩))<|rSt rfl<|rE 39<|cT ?_;rw[Cr hF hse,Mx hx];exact eW rfl ⟨trivial,trivial,trivial⟩ rfl rfl
section
variable {α:Type}{p:α→Bool}
theorem OR{l:List α}{k:Nat}{x:α}(hx:l[k]?=some x)(hn:p x=false)(h:(l.take k).find? p=none):(l.take (k+1)).find? p=none:=by
 rw[bX,hx,iU,h];simp[hn]
theorem OS{l:List α}{k:Nat}{x:α}(hx:l[k]?=some x)(hp:p x=true)(h:(l.take k).find? p=none):l.find? p=some x:=by
 have e:l=l.take (k+1)++l.drop (k+1):=(gA _ _).symm;rw[e,iU,bX,hx,iU,h];simp[hp]
theorem Fy{l:List α}{k:Nat}(hk:l.length≤k)(h:(l.take k).find? p=none):l.find? p=none:=by rwa [aN hk]at h
theorem TR{L:List (List α)}{k:Nat}{s:List α}(hs:L[k]?=some s)(hn:s.find? p=none)(h:(L.take k).flatten.find? p=none):(L.take (k+1)).flatten.find? p=none:=by
 rw[bX,hs,oC,iU,h];simpa using hn
theorem TS{L:List (List α)}{k:Nat}{s:List α}{x:α}(hs:L[k]?=some s)(hn:s.find? p=some x)(h:(L.take k).flatten.find? p=none):L.flatten.find? p=some x:=by
 have e:L=L.take (k+1)++L.drop (k+1):=(gA _ _).symm;rw[e,oC,iU,bX,hs,oC,iU,h];simp[hn]
end
abbrev drA(o:Option Wy):AV:=.tup [.agg (wyL (o.getD pC)),vB o.isSome]
theorem GI(c:Ca)(hok:c.ok):bY C0 121 [.agg (caL c false)] (drA (cP c)):=by
 refine bY.intro c0Ok Tryz.func121 rfl rfl (by kernel_rfl) rfl<|cSR<|rAl 0 rfl rfl<|rAl 1 rfl rfl<|oR 1 rfl<|rE 3<|aE<|cSR<|oR 1 rfl<|rCi rfl (Bo c false hok)<|oR 1 rfl<|rE 6 ?_;refine aU rfl (λ h1=>?_) (λ h1=>?_)
 ·have hR:fY c=false:=by simpa using h1
  refine cSR<|rV (.agg [.v (.int .u32 0),vB false,.v (.string (⟨#[]⟩:ByteArray))]) rfl<|rSt rfl<|oR 1 rfl<|rE 9<|cT ?_;rw[show cP c=none from by unfold cP;rw[if_neg (by rw[hR];decide)]];exact fT rfl rfl
 ·have hR:fY c=true:=by simpa using h1
  obtain⟨hs0,hs4,hw2,hw1,hsw⟩:=jX hR;refine aZ<|aE<|cSR<|oR 2 rfl<|rW (vN c.sets.length) rfl (bQ cB c.sets)<|oR 1 rfl<|rE 10<|bI<|kZ (κ:=Nat) (λ k=>⟨cI [(2,.ptr 1 0),(10,vB (!(fY c))),(13,.sl 1 (c.sets.map cB) false),(14,vN c.sets.length),(15,vN k)],heapF [(0,.box [vI c.ways,.sl 1 (c.sets.map cB) false]),(1,.box [.v (.int .u32 0),vB false,.v (.string (⟨#[]⟩:ByteArray))])],10⟩) (λ k=>k≤c.sets.length∧(c.sets.take k).flatten.find? (·.dirty)=none) (λ k=>c.sets.length - k) 0 (λ s=>s) (Weak.of_lists (λ s=>s) wT wH rfl) (⟨aF _,rfl⟩) ?_;intro k hk;have hkn:k≤c.sets.length:=hk.1;have hkB:k≤1000000:=by omega
  refine cSR<|rW (vB (decide (k<c.sets.length))) rfl (okB (ltN _ _))<|rE 11<|aE ?_;refine aU rfl (λ h2=>?_) (λ h2=>?_)
  ·have h2p:=of_decide_eq_true h2;refine aZ<|aE<|bI<|cSR ?_;obtain⟨s,hs⟩:∃ x,c.sets[k]?=some x:=⟨_,aA omT⟩;have hso:=hok.set s (aB hs);have hsl:s.length≤2:=by have:=hsw s (aB hs);omega
   refine rIx (cB s) (.dp 1 0 (cB s)) rfl rfl (gJ hs) rfl<|oR 2 rfl<|rE 14<|cSR<|oR 1 rfl<|rW (vN s.length) rfl (bQ wyL s)<|oR 1 rfl<|rE 17<|bI<|kZ (κ:=Nat) (λ j=>⟨cI [(2,.ptr 1 0),(10,vB (!(fY c))),(13,.sl 1 (c.sets.map cB) false),(14,vN c.sets.length),(15,vN k),(16,vB (decide (k<c.sets.length))),(17,.dp 1 0 (cB s)),(18,.sl 3 (s.map wyL) false),(5,.sl 3 (s.map wyL) false),(19,.sl 3 (s.map wyL) false),(20,vN s.length),(21,vN j)],heapF [(0,.box [vI c.ways,.sl 1 (c.sets.map cB) false]),(1,.box [.v (.int .u32 0),vB false,.v (.string (⟨#[]⟩:ByteArray))])],17⟩) (λ j=>j≤s.length∧(s.take j).find? (·.dirty)=none) (λ j=>s.length - j) 0 (λ s=>s) (Weak.of_lists (λ s=>s) wT wH rfl) (⟨aF _,rfl⟩) ?_;intro j hj;have hjn:j≤s.length:=hj.1;have hjB:j≤1000000:=by omega
   refine cSR<|rW (vB (decide (j<s.length))) rfl (okB (ltN _ _))<|rE 18<|aE ?_;refine aU rfl (λ h3=>?_) (λ h3=>?_)
   ·have h3p:=of_decide_eq_true h3;refine aZ<|aE<|bI<|cSR ?_;obtain⟨x,hx⟩:∃ x,s[j]?=some x:=⟨_,aA omT⟩;have hxo:=hso.2 x (aB hx);refine rIx (wyL x) (.dp 3 0 (wyL x)) rfl rfl (gJ hx) rfl<|oR 1 rfl<|rAl 20 rfl rfl<|rSt rfl<|rE 22<|cSR<|oR 2 rfl<|rE 24 ?_;refine aU rfl (λ h4=>?_) (λ h4=>?_)
    ·refine cSR<|oR 1 rfl<|rSt rfl<|oR 1 rfl<|rE 27<|cT ?_;rw[show cP c=some x from by unfold cP;rw[if_pos hR];exact TS hs (OS hx h4 hj.2) hk.2];exact fT rfl rfl
    ·refine aZ<|cRg ?_;have b1:j+1≤1000001:=aH hjB (aC 1);refine rW (vN (j+1)) rfl (okI (bS b1 rfl))<|oR 1 rfl<|rE 26 ?_;refine⟨j+1,λ s=>s,Weak.of_lists _ wT wH rfl,⟨by omega,OR hx h4 hj.2⟩,by show s.length - (j+1)<s.length - j;omega⟩
   ·have h3p:=aD h3;refine eA<|cRg ?_;have b2:k+1≤1000001:=aH hkB (aC 1);refine rW (vN (k+1)) rfl (okI (bS b2 rfl))<|oR 1 rfl<|rE 20 ?_;refine⟨k+1,λ s=>s,Weak.of_lists _ wT wH rfl,⟨by omega,TR hs (Fy omT hj.2) hk.2⟩,by show c.sets.length - (k+1)<c.sets.length - k;omega⟩
  ·have h2p:=aD h2;refine eA<|cSR<|rV (.agg [.v (.int .u32 0),vB false,.v (.string (⟨#[]⟩:ByteArray))]) rfl<|rSt rfl<|oR 1 rfl<|rE 14<|cT ?_;rw[show cP c=none from by unfold cP;rw[if_pos hR];have z:=hk.2;rwa [aN omT]at z];exact fT rfl rfl
theorem It(m:ByteArray)(p:Pt):(Az m p).size=m.size:=by
 unfold Az;split
 ·simp only[eL,dU];omega
 ·rfl
theorem iA(m:ByteArray)(l:List Pt):(qV m l).size=m.size:=by
 unfold qV
 induction l generalizing m with
 |nil=>rfl
 |cons p l ih=>rw[oJ,ih,It]
theorem Fq{m:ByteArray}{l:List Pt}{k:Nat}{x:Pt}(hx:l[k]?=some x):qV m (l.take (k+1))=Az (qV m (l.take k)) x:=by
 unfold qV;rw[bX,hx];simp
theorem TO(s:ByteArray):cC s=s.data.toList.map λ b=>[AV.v (.int .u8 (b.toNat:Int))]:=rfl
theorem Rj(a b:ByteArray):(a++b).data.toList=a.data.toList++b.data.toList:=by simp
theorem Rk(a:ByteArray)(i j:Nat):(a.extract i j).data.toList=(a.data.toList.take j).drop i:=by
 rw[ByteArray.data_extract,nB,List.extract_eq_take_drop,List.drop_take]
theorem OJ{m:ByteArray}{p:Pt}{n:Nat}(h:p.addr<m.size)(hn:n=m.size - p.addr):(cC m).take (0+p.addr)++(cC p.data).take (min (cC p.data).length n)++(cC m).drop (0+p.addr+min (cC p.data).length n)=cC (Az m p):=by
 subst hn;unfold Az;rw[if_pos h,bU,xX];simp only[TO,Rj,Rk,fX,fO,lQ,cQ];have hl:(m.data.toList.map λ b=>[AV.v (.int .u8 (b.toNat:Int))]).length=m.size:=by rw[aO];exact dO
 rw[←hl,dI]
theorem Mw{m:ByteArray}{p:Pt}(h: ¬ p.addr<m.size):Az m p=m:=if_neg h
theorem Lh(m:ByteArray)(n:Nat)(h:m.size≤n):iG (List.take n (List.drop 0 (cC m)))=some m.data.toList:=by
 rw[cQ,aN (by rw[xX];exact h)];exact uU _
theorem OK(m:ByteArray)(l:List Pt)(ck:Bool)(hm:m.size≤1000000)(hl:l.length≤1000000)(ho:∀ x∈l,x.ok):bY C0 97 [.v (.string m),.sl 2 (l.map ptL) ck] (.v (.string (qV m l))):=by
 refine dc1 (bY.intro c1Ok Tryz.func97 rfl rfl (by kernel_rfl) rfl ?_);refine cSR<|oR 1 rfl<|rE 1<|cSR<|oR 1 rfl<|rFx (x:=.osl 2 0 m.size false) (h':=upd _ 2 (some (.arr (cC m) 1))) rfl rfl (rfl) ((by show m.size≤1000000;exact hm))<|oR 1 rfl<|rE 4<|aE<|cSR<|oR 1 rfl<|rW (vN l.length) rfl (bQ ptL l)<|oR 1 rfl ?_;refine rE 7<|bI<|kZ (κ:=Nat) (λ k=>⟨cI [(4,.v (.string (⟨#[]⟩:ByteArray))),(5,.osl 2 0 m.size false),(10,.sl 2 (l.map ptL) ck),(11,vN l.length),(12,vN k)],heapF [(2,.arr (cC (qV m (l.take k))) 1)],7⟩) (λ k=>k≤l.length) (λ k=>l.length - k) 0 (λ s=>s) (Weak.of_lists (λ s=>s) wT wH rfl) (aF _) ?_;intro k hk;have hkn:k≤l.length:=hk;have hkB:k≤1000000:=by omega
 refine cSR<|rW (vB (decide (k<l.length))) rfl (okB (ltN _ _))<|rE 8<|aE ?_;refine aU rfl (λ h1=>?_) (λ h1=>?_)
 ·have h1p:=of_decide_eq_true h1;refine aZ<|aE<|bI<|cSR ?_;obtain⟨x,hx⟩:∃ x,l[k]?=some x:=⟨_,aA omT⟩;have hxo:=ho x (aB hx);refine rIx (ptL x) (.dp 2 0 (ptL x)) rfl rfl (gJ hx) rfl<|oR 1 rfl<|rAl 10 rfl rfl<|rSt rfl<|rE 12<|cSR<|oR 2 rfl<|rW (.v (.int .u64 ((x.addr:Nat):Int))) rfl (okI (Hr hxo.addr rfl))<|oR 1 rfl<|rV (vN m.size) rfl<|rW (.v (.int .u64 ((m.size:Nat):Int))) rfl (okI (Hr hm rfl))<|rW (vB (decide (x.addr<m.size))) rfl (okB (ltN _ _))<|rE 19 ?_;refine aU rfl (λ h2=>?_) (λ h2=>?_)
  ·have h2p:=of_decide_eq_true h2;refine cRg<|oR 3 rfl ?_;refine nW (.osl 2 (0+x.addr) (m.size - x.addr) false) rfl (JY (by first|rfl|omega) (by simp only[Option.getD];omega)) slT ?_;refine oR 2 rfl ?_;have hlt:x.addr<(qV m (l.take k)).size:=by rw[iA];omega
   refine rFx (x:=vI ((min (cC x.data).length (m.size - x.addr):Nat):Int)) (h':=upd _ 2 (some (.arr (cC (qV m (l.take (k+1)))) 1))) rfl rfl (GO (by rw[Fq hx];exact OJ hlt (by rw[iA]))) (⟨by show 0+x.addr+(m.size - x.addr)≤(cC (qV m (l.take k))).length;rw[xX,iA];omega,trivial⟩)<|rE 26<|cRg ?_;have b1:k+1≤1000001:=aH hkB (aC 1);refine rW (vN (k+1)) rfl (okI (bS b1 rfl))<|oR 1 rfl<|rE 28 ?_;refine⟨k+1,λ s=>s,Weak.of_lists _ wT wH rfl,by omega,by show l.length - (k+1)<l.length - k;omega⟩
  ·have h2p:=aD h2;refine aZ<|cRg ?_;have b2:k+1≤1000001:=aH hkB (aC 1);refine rW (vN (k+1)) rfl (okI (bS b2 rfl))<|oR 1 rfl<|rE 21 ?_;refine⟨k+1,λ s=>s,Weak.of_lists _ wT ⟨⟨rfl,(congrArg (λ z=>some (Blk.arr (cC z) 1)) (show qV m (l.take k)=qV m (l.take (k+1))from by rw[Fq hx,Mw (by rw[iA];omega)])),rfl⟩,trivial⟩ rfl,by omega,by show l.length - (k+1)<l.length - k;omega⟩
 ·have h1p:=aD h1;refine eA<|cSR<|oR 1 rfl<|WF ((qV m (l.take k)).data.toList) (d:=32) rfl rfl rfl ((by show 0+m.size≤(cC (qV m (l.take k))).length;rw[xX,iA];omega)) (Lh _ _ (by rw[iA];exact aC _))<|oR 1 rfl<|rE 11<|cT ?_;exact fT rfl (by rw[aN (show l.length≤k by omega)];rfl)
theorem zZ{q:List Req}{k:Nat}{x:Req}(hx:q[k]?=some x)(h:x.kind=4):fN (q.take k)++[⟨x.line,x.data⟩]=fN (q.take (k+1)):=by
 unfold fN;rw[bX,hx];simp[jR,h]
theorem DN{q:List Req}{k:Nat}{x:Req}(hx:q[k]?=some x)(h: ¬ x.kind=4):fN (q.take k)=fN (q.take (k+1)):=by
 unfold fN;rw[bX,hx];simp[jR,h]
theorem Iu(q:List Req):(fN q).length≤q.length:=by unfold fN;rw[aO];exact List.length_filter_le _ _
theorem OL{q:List Req}(h:∀ x∈q,x.ok):∀ x∈fN q,x.ok:=λ x hx=>by
 unfold fN at hx;obtain⟨y,hy,rfl⟩:=rK.1 hx;exact⟨(h y (List.mem_filter.1 hy).1).line⟩
theorem Li(m:ByteArray)(hm:m.size≤1000000):bY C0 97 [.v (.string m),.sl 0 [] true] (.v (.string m)):=by
 refine dc1 (bY.intro c1Ok Tryz.func97 rfl rfl (by kernel_rfl) rfl ?_);refine cSR<|oR 1 rfl<|rE 1<|cSR<|oR 1 rfl<|rFx (x:=.osl 2 0 m.size false) (h':=upd _ 2 (some (.arr (cC m) 1))) rfl rfl (rfl) ((by show m.size≤1000000;exact hm))<|oR 1 rfl<|rE 4<|aE<|cSR<|oR 1 rfl<|rV (vI 0) rfl<|oR 1 rfl ?_;refine rE 7<|bI<|kZ (κ:=Unit) (λ u_=>⟨cI [(5,.osl 2 0 m.size false),(10,.sl 0 ([]) true),(11,vI 0),(12,vI 0)],heapF [(2,.arr (cC m) 1)],7⟩) (λ u_=>True) (λ u_=>0) () (λ s=>s) (Weak.of_lists (λ s=>s) wT wH rfl) trivial ?_;intro u_ _;refine cSR<|rV (vB (decide (0<0))) rfl<|rE 8<|aE ?_;refine aU rfl (λ h1=>by simp at h1) (λ _=>?_);refine eA<|cSR<|oR 1 rfl<|WF (m.data.toList) (d:=32) rfl rfl rfl ((by show 0+m.size≤(cC m).length;rw[xX];omega)) (Lh _ _ (aC _))<|oR 1 rfl<|rE 11<|cT ?_;exact fT rfl rfl
theorem OM(q:List Req)(m:ByteArray)(ck:Bool)(hm:m.size≤1000000)(hq:q.length≤900000)(ho:∀ x∈q,x.ok):bY C0 200 [.sl 4 (q.map rqL) ck,.v (.string m)] (.v (.string (jO q m))):=by
 refine dc1 (bY.intro c1Ok Tryz.func200 rfl rfl (by kernel_rfl) rfl ?_);refine cSR<|oR 1 rfl<|rE 1<|cSR<|oR 1 rfl<|rE 2<|aE<|cSR<|oR 1 rfl<|rW (vN q.length) rfl (bQ rqL q)<|oR 1 rfl<|rE 5<|bI ?_;refine kZ (κ:=Nat×Bool) (λ z_=>match z_ with|(k,false)=>⟨cI [(1,.v (.string m)),(4,.v (.string (⟨#[]⟩:ByteArray))),(8,.sl 4 (q.map rqL) ck),(9,vN q.length),(10,vN k),(5,.sl 0 ([]) true)],heapF [],6⟩|(k,true)=>⟨cI [(1,.v (.string m)),(4,.v (.string (⟨#[]⟩:ByteArray))),(8,.sl 4 (q.map rqL) ck),(9,vN q.length),(10,vN k),(5,.osl 5 0 ((fN (q.take k)).length) false)],heapF [(5,.arr ((fN (q.take k)).map ptL) 2)],6⟩) (λ z_=>match z_ with|(k,false)=>(k≤q.length∧fN (q.take k)=[])|(k,true)=>(k≤q.length)) (λ z_=>q.length - z_.1) (0,false) (λ s=>s) (Weak.of_lists (λ s=>s) wT trivial rfl) (⟨aF _,(show fN (q.take 0)=[]from rfl)⟩) ?_;intro z_ hk;obtain⟨k,b_⟩:=z_;cases b_
 ·have hk_:=hk;have hnn:k≤q.length:=hk_.1;have hkB:k≤1000000:=by omega
  have hNk:fN (q.take k)=[]:=hk_.2;refine cSR<|rW (vB (decide (k<q.length))) rfl (okB (ltN _ _))<|rE 7<|aE ?_;refine aU rfl (λ h1=>?_) (λ h1=>?_)
  ·have h1p:=of_decide_eq_true h1;refine aZ<|aE<|bI<|cSR ?_;obtain⟨x,hx⟩:∃ x,q[k]?=some x:=⟨_,aA omT⟩;have hxo:=ho x (aB hx);refine rIx (rqL x) (.dp 4 0 (rqL x)) rfl rfl (gJ hx) rfl<|oR 1 rfl<|rAl 9 rfl rfl<|rSt rfl<|rE 11<|cSR<|oR 2 rfl<|rV (vB (x.kind==4)) rfl<|rE 14 ?_;refine aU rfl (λ h2=>?_) (λ h2=>?_)
   ·have h2p:=kX h2;refine cRg<|oR 5 rfl<|rV (.agg [vU x.line,.v (.string x.data)]) rfl<|rV (.sl 2 ([[vU x.line,.v (.string x.data)]]) true) rfl<|rFx (x:=.osl 21 0 1 false) (h':=upd _ 21 (some (.arr (([(⟨x.line,x.data⟩:Pt)]).map ptL) 2))) rfl rfl (DR omT) (⟨rfl,by exact omT,by exact omT,trivial⟩)<|oR 1 rfl<|rE 23<|cRg ?_;have b1:k+1≤1000001:=aH hkB (aC 1);refine rW (vN (k+1)) rfl (okI (bS b1 rfl))<|oR 1 rfl<|rE 25 ?_;refine⟨(k+1,true),λ i=>match i with|5=>21|i=>i,Weak.of_lists _ ⟨⟨rfl,rfl⟩,⟨rfl,rfl⟩,⟨rfl,rfl⟩,⟨rfl,rfl⟩,⟨rfl,rfl⟩,⟨(show AV.osl 21 0 (1) false=AV.osl 21 0 (fN (q.take (k+1))).length false from by rw[←(show [(⟨x.line,x.data⟩:Pt)]=fN (q.take (k+1))from (by rw[←(zZ hx h2p),hNk];rfl))];first|done|rfl|(congr 1<;>(first|exact omT|simp))),rfl⟩,trivial⟩ ⟨⟨rfl,(congrArg (λ z:List Pt=>some (Blk.arr (z.map ptL) 2)) (show [(⟨x.line,x.data⟩:Pt)]=fN (q.take (k+1))from (by rw[←(zZ hx h2p),hNk];rfl))),rfl⟩,trivial⟩ rfl,by omega,by show q.length - (k+1)<q.length - k;omega⟩
   ·have h2p:=kY h2;refine aZ<|cRg ?_;have b2:k+1≤1000001:=aH hkB (aC 1);refine rW (vN (k+1)) rfl (okI (bS b2 rfl))<|oR 1 rfl<|rE 16 ?_;refine⟨(k+1,false),λ i=>i,Weak.of_lists _ wT trivial rfl,⟨by omega,(by rw[←(DN hx h2p)];exact hNk)⟩,by show q.length - (k+1)<q.length - k;omega⟩
  ·have h1p:=aD h1;refine eA<|cSR<|oR 2 rfl<|rCi rfl (Li m (hm))<|oR 1 rfl<|rE 11<|cT ?_;have hW:jO q m=qV m (fN (q.take k)):=by unfold jO;rw[aN omT]
   rw[hW,hNk];exact fT rfl rfl
 ·have hk_:=hk;have hnn:k≤q.length:=hk_;have hkB:k≤1000000:=by omega
  have habk:(fN (q.take k)).length≤900000:=(by have:=Iu (q.take k);rw[aQ]at this;omega);refine cSR<|rW (vB (decide (k<q.length))) rfl (okB (ltN _ _))<|rE 7<|aE ?_;refine aU rfl (λ h3=>?_) (λ h3=>?_)
  ·have h3p:=of_decide_eq_true h3;refine aZ<|aE<|bI<|cSR ?_;obtain⟨x,hx⟩:∃ x,q[k]?=some x:=⟨_,aA omT⟩;have hxo:=ho x (aB hx);refine rIx (rqL x) (.dp 4 0 (rqL x)) rfl rfl (gJ hx) rfl<|oR 1 rfl<|rAl 9 rfl rfl<|rSt rfl<|rE 11<|cSR<|oR 2 rfl<|rV (vB (x.kind==4)) rfl<|rE 14 ?_;refine aU rfl (λ h4=>?_) (λ h4=>?_)
   ·have h4p:=kX h4;refine cRg<|oR 5 rfl<|rV (.agg [vU x.line,.v (.string x.data)]) rfl<|rV (.sl 2 ([[vU x.line,.v (.string x.data)]]) true) rfl<|rFx (x:=.osl 21 0 ((fN (q.take k)).length+1) false) (h':=upd (upd _ 5 none) 21 (some (.arr (((fN (q.take k))++([(⟨x.line,x.data⟩:Pt)])).map ptL) 2))) rfl rfl (gU ptL (fN (q.take k)) ([(⟨x.line,x.data⟩:Pt)]) omT omT) (⟨by exact omT,by exact omT,trivial⟩)<|oR 1 rfl<|rE 23<|cRg ?_;have b3:k+1≤1000001:=aH hkB (aC 1);refine rW (vN (k+1)) rfl (okI (bS b3 rfl))<|oR 1 rfl<|rE 25 ?_;refine⟨(k+1,true),λ i=>match i with|5=>21|i=>i,Weak.of_lists _ ⟨⟨rfl,rfl⟩,⟨rfl,rfl⟩,⟨rfl,rfl⟩,⟨rfl,rfl⟩,⟨rfl,rfl⟩,⟨(show AV.osl 21 0 ((fN (q.take k)).length+1) false=AV.osl 21 0 (fN (q.take (k+1))).length false from by rw[←(show (fN (q.take k))++([(⟨x.line,x.data⟩:Pt)])=fN (q.take (k+1))from zZ hx h4p)];first|done|rfl|(congr 1<;>(first|exact omT|simp))),rfl⟩,trivial⟩ ⟨⟨rfl,(congrArg (λ z:List Pt=>some (Blk.arr (z.map ptL) 2)) (show (fN (q.take k))++([(⟨x.line,x.data⟩:Pt)])=fN (q.take (k+1))from zZ hx h4p)),rfl⟩,trivial⟩ rfl,by omega,by show q.length - (k+1)<q.length - k;omega⟩
   ·have h4p:=kY h4;refine aZ<|cRg ?_;have b4:k+1≤1000001:=aH hkB (aC 1);refine rW (vN (k+1)) rfl (okI (bS b4 rfl))<|oR 1 rfl<|rE 16 ?_;refine⟨(k+1,true),λ i=>i,Weak.of_lists _ ⟨⟨rfl,rfl⟩,⟨rfl,rfl⟩,⟨rfl,rfl⟩,⟨rfl,rfl⟩,⟨rfl,rfl⟩,⟨(congrArg (λ z:List Pt=>AV.osl 5 0 z.length false) (DN hx h4p)),rfl⟩,trivial⟩ ⟨⟨rfl,(congrArg (λ z:List Pt=>some (Blk.arr (z.map ptL) 2)) (DN hx h4p)),rfl⟩,trivial⟩ rfl,by omega,by show q.length - (k+1)<q.length - k;omega⟩
  ·have h3p:=aD h3;refine eA<|cSR<|oR 2 rfl<|rCl (x:=.v (.string (qV m (fN (q.take k))))) rfl (.inr ⟨rfl,⟨trivial,(by show 0+((fN (q.take k)).length)≤((fN (q.take k)).map ptL).length;exact omT),trivial⟩⟩) ((show bY C0 _ [_,.sl 2 (List.take ((fN (q.take k)).length) (List.drop 0 ((fN (q.take k)).map ptL))) false] _ from by rw[kA ptL (fN (q.take k)) omT];exact OK m (fN (q.take k)) false (hm) (by have:=Iu (q.take k);rw[aQ]at this;omega) (OL (sW ho))))<|oR 1 rfl<|rE 11<|cT ?_;have hW:jO q m=qV m (fN (q.take k)):=by unfold jO;rw[aN omT]
   rw[hW];exact fT rfl rfl
def TP(w:Wy):Pt:=⟨w.line,w.data⟩
def gO(c:Ca)(k:Nat):List Pt:=(c.sets.take k).flatten.map TP
def fH(c:Ca)(k:Nat)(s:List Wy)(j:Nat):List Pt:=gO c k++(s.take j).map TP
theorem oS{c:Ca}{k j:Nat}{s:List Wy}{x:Wy}(hx:s[j]?=some x):fH c k s j++[⟨x.line,x.data⟩]=fH c k s (j+1):=by
 unfold fH;rw[bX,hx];simp[TP]
theorem uA{c:Ca}{k j:Nat}{s:List Wy}(hs:c.sets[k]?=some s)(hj:s.length≤j):fH c k s j=gO c (k+1):=by
 unfold fH gO;rw[aN hj,bX,hs];simp
theorem Ax(c:Ca)(k:Nat)(s:List Wy):gO c k=fH c k s 0:=by unfold fH;simp
theorem DO{c:Ca}{k:Nat}(h:c.sets.length≤k):gO c k=Kc c:=by unfold gO Kc;rw[aN h];rfl
theorem Lj{α:Type}{B:Nat}:∀ (L:List (List α)),(∀ s∈L,s.length≤B)→L.flatten.length≤L.length * B
 |[],_=>by simp
 |s::L,h=>by
  have h1:=h s bO;have h2:=Lj L λ t ht=>h t (bZ _ ht);simp only[mJ,aY,bN,cD,kG];omega
theorem GD{c:Ca}{k:Nat}(h4:c.sets.length≤4)(h2:∀ s∈c.sets,s.length≤2):(gO c k).length≤8:=by
 unfold gO;rw[aO];have:=Lj (B:=2) (c.sets.take k) λ s hs=>h2 s (cO hs);rw[aQ]at this;omega
theorem Iv{c:Ca}{k j:Nat}{s:List Wy}(h4:c.sets.length≤4)(h2:∀ s∈c.sets,s.length≤2)(hs:s.length≤2):(fH c k s j).length≤10:=by
 unfold fH;have:=GD (k:=k) h4 h2;rw[aY,aO,aQ];omega
theorem Rl{c:Ca}(h:∀ s∈c.sets,∀ x∈s,x.ok)(k:Nat):∀ x∈gO c k,x.ok:=λ x hx=>by
 obtain⟨y,hy,rfl⟩:=rK.1 hx;obtain⟨s,hs,hy⟩:=List.mem_flatten.1 hy;exact⟨(h s (cO hs) y hy).line⟩
theorem VG(c:Ca)(q:List Req)(m:ByteArray)(ck:Bool)(hok:c.ok)(hc4:c.sets.length≤4)(hc2:∀ s∈c.sets,s.length≤2)(hm:m.size≤1000000)(hq:q.length≤900000)(ho:∀ x∈q,x.ok):bY C0 198 [.agg (caL c false),.sl 4 (q.map rqL) ck,.v (.string m)] (.v (.string (Bs c q m))):=by
 refine dc1 (bY.intro c1Ok Tryz.func198 rfl rfl (by kernel_rfl) rfl ?_);refine cSR<|rAl 0 rfl rfl<|oR 1 rfl<|rE 2<|cSR<|oR 1 rfl<|rE 3<|aE<|cSR<|oR 2 rfl<|rW (vN c.sets.length) rfl (bQ cB c.sets)<|oR 1 rfl<|rE 7 ?_;refine bI<|kZ (κ:=Nat×Bool) (λ z_=>match z_ with|(k,false)=>⟨cI [(1,.sl 4 (q.map rqL) ck),(2,.v (.string m)),(6,.v (.string (⟨#[]⟩:ByteArray))),(13,.sl 1 (c.sets.map cB) false),(14,vN c.sets.length),(15,vN k),(7,.sl 0 ([]) true)],heapF [(0,.box [vI c.ways,.sl 1 (c.sets.map cB) false])],8⟩|(k,true)=>⟨cI [(1,.sl 4 (q.map rqL) ck),(2,.v (.string m)),(6,.v (.string (⟨#[]⟩:ByteArray))),(13,.sl 1 (c.sets.map cB) false),(14,vN c.sets.length),(15,vN k),(7,.osl 7 0 ((gO c k).length) false)],heapF [(0,.box [vI c.ways,.sl 1 (c.sets.map cB) false]),(7,.arr ((gO c k).map ptL) 2)],8⟩) (λ z_=>match z_ with|(k,false)=>(k≤c.sets.length∧gO c k=[])|(k,true)=>(k≤c.sets.length)) (λ z_=>c.sets.length - z_.1) (0,false) (λ s=>s) (Weak.of_lists (λ s=>s) wT wH rfl) (⟨aF _,(show gO c 0=[]from rfl)⟩) ?_;intro z_ hk;obtain⟨k,b_⟩:=z_;cases b_
 ·have hk_:=hk;have hnn:k≤c.sets.length:=hk_.1;have hkB:k≤1000000:=by omega
  have hNk:gO c k=[]:=hk_.2;refine cSR<|rW (vB (decide (k<c.sets.length))) rfl (okB (ltN _ _))<|rE 9<|aE ?_;refine aU rfl (λ h1=>?_) (λ h1=>?_)
  ·have h1p:=of_decide_eq_true h1;refine aZ<|aE<|bI<|cSR ?_;obtain⟨s,hs⟩:∃ x,c.sets[k]?=some x:=⟨_,aA omT⟩;have hso:=hok.set s (aB hs);have hsl:s.length≤2:=hc2 s (aB hs);refine rIx (cB s) (.dp 1 0 (cB s)) rfl rfl (gJ hs) rfl<|oR 2 rfl<|rE 12<|cSR<|oR 1 rfl<|rW (vN s.length) rfl (bQ wyL s)<|oR 1 rfl<|rE 15<|bI<|kZ (κ:=Nat×Bool) (λ z_=>match z_ with|(j,false)=>⟨cI [(1,.sl 4 (q.map rqL) ck),(2,.v (.string m)),(6,.v (.string (⟨#[]⟩:ByteArray))),(13,.sl 1 (c.sets.map cB) false),(14,vN c.sets.length),(15,vN k),(16,vB (decide (k<c.sets.length))),(17,.dp 1 0 (cB s)),(18,.sl 3 (s.map wyL) false),(9,.sl 3 (s.map wyL) false),(19,.sl 3 (s.map wyL) false),(20,vN s.length),(21,vN j),(7,.sl 0 ([]) true)],heapF [(0,.box [vI c.ways,.sl 1 (c.sets.map cB) false])],16⟩|(j,true)=>⟨cI [(1,.sl 4 (q.map rqL) ck),(2,.v (.string m)),(6,.v (.string (⟨#[]⟩:ByteArray))),(13,.sl 1 (c.sets.map cB) false),(14,vN c.sets.length),(15,vN k),(16,vB (decide (k<c.sets.length))),(17,.dp 1 0 (cB s)),(18,.sl 3 (s.map wyL) false),(9,.sl 3 (s.map wyL) false),(19,.sl 3 (s.map wyL) false),(20,vN s.length),(21,vN j),(7,.osl 15 0 ((fH c k s j).length) false)],heapF [(0,.box [vI c.ways,.sl 1 (c.sets.map cB) false]),(15,.arr ((fH c k s j).map ptL) 2)],16⟩) (λ z_=>match z_ with|(j,false)=>(j≤s.length∧fH c k s j=[])|(j,true)=>(j≤s.length)) (λ z_=>s.length - z_.1) (0,false) (λ s=>s) (Weak.of_lists (λ s=>s) wT wH rfl) (⟨aF _,(show fH c k s 0=[]from (Ax c k s).symm.trans hNk)⟩) ?_;intro z_ hj;obtain⟨j,b_⟩:=z_;cases b_
   ·have hj_:=hj;have hnn:j≤s.length:=hj_.1;have hjB:j≤1000000:=by omega
    have hNj:fH c k s j=[]:=hj_.2;refine cSR<|rW (vB (decide (j<s.length))) rfl (okB (ltN _ _))<|rE 17<|aE ?_;refine aU rfl (λ h2=>?_) (λ h2=>?_)
    ·have h2p:=of_decide_eq_true h2;refine aZ<|aE<|bI<|cSR ?_;obtain⟨x,hx⟩:∃ x,s[j]?=some x:=⟨_,aA omT⟩;have hxo:=hso.2 x (aB hx);refine rIx (wyL x) (.dp 3 0 (wyL x)) rfl rfl (gJ hx) rfl<|oR 1 rfl<|rAl 19 rfl rfl<|rSt rfl<|rE 21<|cRg<|oR 5 rfl<|rV (.agg [vU x.line,.v (.string x.data)]) rfl<|rV (.sl 2 ([[vU x.line,.v (.string x.data)]]) true) rfl<|rFx (x:=.osl 28 0 1 false) (h':=upd _ 28 (some (.arr (([(⟨x.line,x.data⟩:Pt)]).map ptL) 2))) rfl rfl (DR omT) (⟨rfl,by exact omT,by exact omT,trivial⟩)<|oR 1 rfl<|rE 30<|cRg ?_;have b1:j+1≤1000001:=aH hjB (aC 1);refine rW (vN (j+1)) rfl (okI (bS b1 rfl))<|oR 1 rfl<|rE 32 ?_;refine⟨(j+1,true),λ i=>match i with|15=>28|i=>i,Weak.of_lists _ ⟨⟨rfl,rfl⟩,⟨rfl,rfl⟩,⟨rfl,rfl⟩,⟨rfl,rfl⟩,⟨rfl,rfl⟩,⟨rfl,rfl⟩,⟨rfl,rfl⟩,⟨rfl,rfl⟩,⟨rfl,rfl⟩,⟨rfl,rfl⟩,⟨rfl,rfl⟩,⟨rfl,rfl⟩,⟨rfl,rfl⟩,⟨(show AV.osl 28 0 (1) false=AV.osl 28 0 (fH c k s (j+1)).length false from by rw[←(show [(⟨x.line,x.data⟩:Pt)]=fH c k s (j+1)from (by rw[←(oS hx),hNj];rfl))];first|done|rfl|(congr 1<;>(first|exact omT|simp))),rfl⟩,trivial⟩ ⟨⟨rfl,rfl,rfl⟩,⟨rfl,(congrArg (λ z:List Pt=>some (Blk.arr (z.map ptL) 2)) (show [(⟨x.line,x.data⟩:Pt)]=fH c k s (j+1)from (by rw[←(oS hx),hNj];rfl))),rfl⟩,trivial⟩ rfl,by omega,by show s.length - (j+1)<s.length - j;omega⟩
    ·have h2p:=aD h2;refine eA<|cRg ?_;have b2:k+1≤1000001:=aH hkB (aC 1);refine rW (vN (k+1)) rfl (okI (bS b2 rfl))<|oR 1 rfl<|rE 19 ?_;refine⟨(k+1,false),λ i=>i,Weak.of_lists _ wT wH rfl,⟨by omega,(by rw[←uA (j:=j) hs omT];exact hNj)⟩,by show c.sets.length - (k+1)<c.sets.length - k;omega⟩
   ·have hj_:=hj;have hnn:j≤s.length:=hj_;have hjB:j≤1000000:=by omega
    have habj:(fH c k s j).length≤10:=(Iv hc4 hc2 hsl);refine cSR<|rW (vB (decide (j<s.length))) rfl (okB (ltN _ _))<|rE 17<|aE ?_;refine aU rfl (λ h3=>?_) (λ h3=>?_)
    ·have h3p:=of_decide_eq_true h3;refine aZ<|aE<|bI<|cSR ?_;obtain⟨x,hx⟩:∃ x,s[j]?=some x:=⟨_,aA omT⟩;have hxo:=hso.2 x (aB hx);refine rIx (wyL x) (.dp 3 0 (wyL x)) rfl rfl (gJ hx) rfl<|oR 1 rfl<|rAl 19 rfl rfl<|rSt rfl<|rE 21<|cRg<|oR 5 rfl<|rV (.agg [vU x.line,.v (.string x.data)]) rfl<|rV (.sl 2 ([[vU x.line,.v (.string x.data)]]) true) rfl<|rFx (x:=.osl 28 0 ((fH c k s j).length+1) false) (h':=upd (upd _ 15 none) 28 (some (.arr (((fH c k s j)++([(⟨x.line,x.data⟩:Pt)])).map ptL) 2))) rfl rfl (gU ptL (fH c k s j) ([(⟨x.line,x.data⟩:Pt)]) omT omT) (⟨by exact omT,by exact omT,trivial⟩)<|oR 1 rfl<|rE 30<|cRg ?_;have b3:j+1≤1000001:=aH hjB (aC 1);refine rW (vN (j+1)) rfl (okI (bS b3 rfl))<|oR 1 rfl<|rE 32 ?_;refine⟨(j+1,true),λ i=>match i with|15=>28|i=>i,Weak.of_lists _ ⟨⟨rfl,rfl⟩,⟨rfl,rfl⟩,⟨rfl,rfl⟩,⟨rfl,rfl⟩,⟨rfl,rfl⟩,⟨rfl,rfl⟩,⟨rfl,rfl⟩,⟨rfl,rfl⟩,⟨rfl,rfl⟩,⟨rfl,rfl⟩,⟨rfl,rfl⟩,⟨rfl,rfl⟩,⟨rfl,rfl⟩,⟨(show AV.osl 28 0 ((fH c k s j).length+1) false=AV.osl 28 0 (fH c k s (j+1)).length false from by rw[←(show (fH c k s j)++([(⟨x.line,x.data⟩:Pt)])=fH c k s (j+1)from oS hx)];first|done|rfl|(congr 1<;>(first|exact omT|simp))),rfl⟩,trivial⟩ ⟨⟨rfl,rfl,rfl⟩,⟨rfl,(congrArg (λ z:List Pt=>some (Blk.arr (z.map ptL) 2)) (show (fH c k s j)++([(⟨x.line,x.data⟩:Pt)])=fH c k s (j+1)from oS hx)),rfl⟩,trivial⟩ rfl,by omega,by show s.length - (j+1)<s.length - j;omega⟩
    ·have h3p:=aD h3;refine eA<|cRg ?_;have b4:k+1≤1000001:=aH hkB (aC 1);refine rW (vN (k+1)) rfl (okI (bS b4 rfl))<|oR 1 rfl<|rE 19 ?_;refine⟨(k+1,true),λ i=>match i with|7=>15|i=>i,Weak.of_lists _ ⟨⟨rfl,rfl⟩,⟨rfl,rfl⟩,⟨rfl,rfl⟩,⟨rfl,rfl⟩,⟨rfl,rfl⟩,⟨rfl,rfl⟩,⟨(show AV.osl 15 0 ((fH c k s j).length) false=AV.osl 15 0 (gO c (k+1)).length false from by rw[←(show fH c k s j=gO c (k+1)from uA hs omT)];first|done|rfl|(congr 1<;>(first|exact omT|simp))),rfl⟩,trivial⟩ ⟨⟨rfl,rfl,rfl⟩,⟨rfl,(congrArg (λ z:List Pt=>some (Blk.arr (z.map ptL) 2)) (show fH c k s j=gO c (k+1)from uA hs omT)),rfl⟩,trivial⟩ rfl,by omega,by show c.sets.length - (k+1)<c.sets.length - k;omega⟩
  ·have h1p:=aD h1;refine eA<|cSR<|oR 2 rfl<|rCi rfl (OM q m ck hm hq ho)<|oR 1 rfl<|rCi rfl (Li (jO q m) (by unfold jO;rw[iA];exact hm))<|oR 1 rfl<|rE 15<|cT ?_;have hW:Bs c q m=qV (jO q m) (gO c k):=by unfold Bs;rw[DO omT]
   rw[hW,hNk];exact fT rfl rfl
 ·have hk_:=hk;have hnn:k≤c.sets.length:=hk_;have hkB:k≤1000000:=by omega
  have habk:(gO c k).length≤8:=(GD hc4 hc2);refine cSR<|rW (vB (decide (k<c.sets.length))) rfl (okB (ltN _ _))<|rE 9<|aE ?_;refine aU rfl (λ h4=>?_) (λ h4=>?_)
  ·have h4p:=of_decide_eq_true h4;refine aZ<|aE<|bI<|cSR ?_;obtain⟨s,hs⟩:∃ x,c.sets[k]?=some x:=⟨_,aA omT⟩;have hso:=hok.set s (aB hs);have hsl:s.length≤2:=hc2 s (aB hs);refine rIx (cB s) (.dp 1 0 (cB s)) rfl rfl (gJ hs) rfl<|oR 2 rfl<|rE 12<|cSR<|oR 1 rfl<|rW (vN s.length) rfl (bQ wyL s)<|oR 1 rfl<|rE 15<|bI<|kZ (κ:=Nat×Bool) (λ z_=>match z_ with|(j,false)=>⟨cI [(1,.sl 4 (q.map rqL) ck),(2,.v (.string m)),(6,.v (.string (⟨#[]⟩:ByteArray))),(13,.sl 1 (c.sets.map cB) false),(14,vN c.sets.length),(15,vN k),(16,vB (decide (k<c.sets.length))),(17,.dp 1 0 (cB s)),(18,.sl 3 (s.map wyL) false),(9,.sl 3 (s.map wyL) false),(19,.sl 3 (s.map wyL) false),(20,vN s.length),(21,vN j),(7,.sl 0 ([]) true)],heapF [(0,.box [vI c.ways,.sl 1 (c.sets.map cB) false])],16⟩|(j,true)=>⟨cI [(1,.sl 4 (q.map rqL) ck),(2,.v (.string m)),(6,.v (.string (⟨#[]⟩:ByteArray))),(13,.sl 1 (c.sets.map cB) false),(14,vN c.sets.length),(15,vN k),(16,vB (decide (k<c.sets.length))),(17,.dp 1 0 (cB s)),(18,.sl 3 (s.map wyL) false),(9,.sl 3 (s.map wyL) false),(19,.sl 3 (s.map wyL) false),(20,vN s.length),(21,vN j),(7,.osl 15 0 ((fH c k s j).length) false)],heapF [(0,.box [vI c.ways,.sl 1 (c.sets.map cB) false]),(15,.arr ((fH c k s j).map ptL) 2)],16⟩) (λ z_=>match z_ with|(j,false)=>(j≤s.length∧fH c k s j=[])|(j,true)=>(j≤s.length)) (λ z_=>s.length - z_.1) (0,true) (λ i=>match i with|15=>7|i=>i) (Weak.of_lists (λ i=>match i with|15=>7|i=>i) ⟨⟨rfl,rfl⟩,⟨rfl,rfl⟩,⟨rfl,rfl⟩,⟨rfl,rfl⟩,⟨rfl,rfl⟩,⟨rfl,rfl⟩,⟨rfl,rfl⟩,⟨rfl,rfl⟩,⟨rfl,rfl⟩,⟨rfl,rfl⟩,⟨rfl,rfl⟩,⟨rfl,rfl⟩,⟨rfl,rfl⟩,⟨(show AV.osl 7 0 ((gO c k).length) false=AV.osl 7 0 (fH c k s 0).length false from by rw[←(show gO c k=fH c k s 0 from Ax c k s)]),rfl⟩,trivial⟩ ⟨⟨rfl,rfl,rfl⟩,⟨rfl,(congrArg (λ z:List Pt=>some (Blk.arr (z.map ptL) 2)) (show gO c k=fH c k s 0 from Ax c k s)),rfl⟩,trivial⟩ rfl) (aF _) ?_;intro z_ hj;obtain⟨j,b_⟩:=z_;cases b_
   ·have hj_:=hj;have hnn:j≤s.length:=hj_.1;have hjB:j≤1000000:=by omega
    have hNj:fH c k s j=[]:=hj_.2;refine cSR<|rW (vB (decide (j<s.length))) rfl (okB (ltN _ _))<|rE 17<|aE ?_;refine aU rfl (λ h5=>?_) (λ h5=>?_)
    ·have h5p:=of_decide_eq_true h5;refine aZ<|aE<|bI<|cSR ?_;obtain⟨x,hx⟩:∃ x,s[j]?=some x:=⟨_,aA omT⟩;have hxo:=hso.2 x (aB hx);refine rIx (wyL x) (.dp 3 0 (wyL x)) rfl rfl (gJ hx) rfl<|oR 1 rfl<|rAl 19 rfl rfl<|rSt rfl<|rE 21<|cRg<|oR 5 rfl<|rV (.agg [vU x.line,.v (.string x.data)]) rfl<|rV (.sl 2 ([[vU x.line,.v (.string x.data)]]) true) rfl<|rFx (x:=.osl 28 0 1 false) (h':=upd _ 28 (some (.arr (([(⟨x.line,x.data⟩:Pt)]).map ptL) 2))) rfl rfl (DR omT) (⟨rfl,by exact omT,by exact omT,trivial⟩)<|oR 1 rfl<|rE 30<|cRg ?_;have b5:j+1≤1000001:=aH hjB (aC 1);refine rW (vN (j+1)) rfl (okI (bS b5 rfl))<|oR 1 rfl<|rE 32 ?_;refine⟨(j+1,true),λ i=>match i with|15=>28|i=>i,Weak.of_lists _ ⟨⟨rfl,rfl⟩,⟨rfl,rfl⟩,⟨rfl,rfl⟩,⟨rfl,rfl⟩,⟨rfl,rfl⟩,⟨rfl,rfl⟩,⟨rfl,rfl⟩,⟨rfl,rfl⟩,⟨rfl,rfl⟩,⟨rfl,rfl⟩,⟨rfl,rfl⟩,⟨rfl,rfl⟩,⟨rfl,rfl⟩,⟨(show AV.osl 28 0 (1) false=AV.osl 28 0 (fH c k s (j+1)).length false from by rw[←(show [(⟨x.line,x.data⟩:Pt)]=fH c k s (j+1)from (by rw[←(oS hx),hNj];rfl))];first|done|rfl|(congr 1<;>(first|exact omT|simp))),rfl⟩,trivial⟩ ⟨⟨rfl,rfl,rfl⟩,⟨rfl,(congrArg (λ z:List Pt=>some (Blk.arr (z.map ptL) 2)) (show [(⟨x.line,x.data⟩:Pt)]=fH c k s (j+1)from (by rw[←(oS hx),hNj];rfl))),rfl⟩,trivial⟩ rfl,by omega,by show s.length - (j+1)<s.length - j;omega⟩
    ·have h5p:=aD h5;refine eA<|cRg ?_;have b6:k+1≤1000001:=aH hkB (aC 1);refine rW (vN (k+1)) rfl (okI (bS b6 rfl))<|oR 1 rfl<|rE 19 ?_;refine⟨(k+1,false),λ i=>i,Weak.of_lists _ wT wH rfl,⟨by omega,(by rw[←uA (j:=j) hs omT];exact hNj)⟩,by show c.sets.length - (k+1)<c.sets.length - k;omega⟩
   ·have hj_:=hj;have hnn:j≤s.length:=hj_;have hjB:j≤1000000:=by omega
    have habj:(fH c k s j).length≤10:=(Iv hc4 hc2 hsl);refine cSR<|rW (vB (decide (j<s.length))) rfl (okB (ltN _ _))<|rE 17<|aE ?_;refine aU rfl (λ h6=>?_) (λ h6=>?_)
    ·have h6p:=of_decide_eq_true h6;refine aZ<|aE<|bI<|cSR ?_;obtain⟨x,hx⟩:∃ x,s[j]?=some x:=⟨_,aA omT⟩;have hxo:=hso.2 x (aB hx);refine rIx (wyL x) (.dp 3 0 (wyL x)) rfl rfl (gJ hx) rfl<|oR 1 rfl<|rAl 19 rfl rfl<|rSt rfl<|rE 21<|cRg<|oR 5 rfl<|rV (.agg [vU x.line,.v (.string x.data)]) rfl<|rV (.sl 2 ([[vU x.line,.v (.string x.data)]]) true) rfl<|rFx (x:=.osl 28 0 ((fH c k s j).length+1) false) (h':=upd (upd _ 15 none) 28 (some (.arr (((fH c k s j)++([(⟨x.line,x.data⟩:Pt)])).map ptL) 2))) rfl rfl (gU ptL (fH c k s j) ([(⟨x.line,x.data⟩:Pt)]) omT omT) (⟨by exact omT,by exact omT,trivial⟩)<|oR 1 rfl<|rE 30<|cRg ?_;have b7:j+1≤1000001:=aH hjB (aC 1);refine rW (vN (j+1)) rfl (okI (bS b7 rfl))<|oR 1 rfl<|rE 32 ?_;refine⟨(j+1,true),λ i=>match i with|15=>28|i=>i,Weak.of_lists _ ⟨⟨rfl,rfl⟩,⟨rfl,rfl⟩,⟨rfl,rfl⟩,⟨rfl,rfl⟩,⟨rfl,rfl⟩,⟨rfl,rfl⟩,⟨rfl,rfl⟩,⟨rfl,rfl⟩,⟨rfl,rfl⟩,⟨rfl,rfl⟩,⟨rfl,rfl⟩,⟨rfl,rfl⟩,⟨rfl,rfl⟩,⟨(show AV.osl 28 0 ((fH c k s j).length+1) false=AV.osl 28 0 (fH c k s (j+1)).length false from by rw[←(show (fH c k s j)++([(⟨x.line,x.data⟩:Pt)])=fH c k s (j+1)from oS hx)];first|done|rfl|(congr 1<;>(first|exact omT|simp))),rfl⟩,trivial⟩ ⟨⟨rfl,rfl,rfl⟩,⟨rfl,(congrArg (λ z:List Pt=>some (Blk.arr (z.map ptL) 2)) (show (fH c k s j)++([(⟨x.line,x.data⟩:Pt)])=fH c k s (j+1)from oS hx)),rfl⟩,trivial⟩ rfl,by omega,by show s.length - (j+1)<s.length - j;omega⟩
    ·have h6p:=aD h6;refine eA<|cRg ?_;have b8:k+1≤1000001:=aH hkB (aC 1);refine rW (vN (k+1)) rfl (okI (bS b8 rfl))<|oR 1 rfl<|rE 19 ?_;refine⟨(k+1,true),λ i=>match i with|7=>15|i=>i,Weak.of_lists _ ⟨⟨rfl,rfl⟩,⟨rfl,rfl⟩,⟨rfl,rfl⟩,⟨rfl,rfl⟩,⟨rfl,rfl⟩,⟨rfl,rfl⟩,⟨(show AV.osl 15 0 ((fH c k s j).length) false=AV.osl 15 0 (gO c (k+1)).length false from by rw[←(show fH c k s j=gO c (k+1)from uA hs omT)];first|done|rfl|(congr 1<;>(first|exact omT|simp))),rfl⟩,trivial⟩ ⟨⟨rfl,rfl,rfl⟩,⟨rfl,(congrArg (λ z:List Pt=>some (Blk.arr (z.map ptL) 2)) (show fH c k s j=gO c (k+1)from uA hs omT)),rfl⟩,trivial⟩ rfl,by omega,by show c.sets.length - (k+1)<c.sets.length - k;omega⟩
  ·have h4p:=aD h4;refine eA<|cSR<|oR 2 rfl<|rCi rfl (OM q m ck hm hq ho)<|oR 1 rfl<|rCl (x:=.v (.string (qV (jO q m) (gO c k)))) rfl (.inr ⟨rfl,⟨trivial,(by show 0+((gO c k).length)≤((gO c k).map ptL).length;exact omT),trivial⟩⟩) ((show bY C0 _ [_,.sl 2 (List.take ((gO c k).length) (List.drop 0 ((gO c k).map ptL))) false] _ from by rw[kA ptL (gO c k) omT];exact OK (jO q m) (gO c k) false (by unfold jO;rw[iA];exact hm) (by have:=GD (k:=k) hc4 hc2;omega) (Rl (λ s hs=>(hok.set s hs).2) k)))<|oR 1 rfl<|rE 15<|cT ?_;have hW:Bs c q m=qV (jO q m) (gO c k):=by unfold Bs;rw[DO omT]
   rw[hW];exact fT rfl rfl
theorem Xb(stores:List Pt)(c:Ca)(q:List Req)(m:ByteArray)(ck ck2:Bool)(hok:c.ok)(hc4:c.sets.length≤4)(hc2:∀ s∈c.sets,s.length≤2)(hm:m.size≤1000000)(hq:q.length≤900000)(ho:∀ x∈q,x.ok)(hst:stores.length≤1000000)(hso:∀ x∈stores,x.ok):bY C0 151 [.sl 2 (stores.map ptL) ck2,.agg (caL c false),.sl 4 (q.map rqL) ck,.v (.string m)] (.v (.string (VP stores c q m))):=by
 refine bY.intro c0Ok Tryz.func151 rfl rfl (by kernel_rfl) rfl<|cSR<|rAl 0 rfl rfl<|oR 1 rfl<|rE 2<|cSR<|oR 3 rfl<|rCi rfl (VG c q m ck hok hc4 hc2 hm hq ho)<|oR 1 rfl<|rCi rfl (OK (Bs c q m) stores ck2 (by unfold Bs jO;rw[iA,iA];exact hm) hst hso)<|oR 1 rfl<|rE 9<|cT ?_;exact fT rfl rfl
theorem ON{m:ByteArray}{a:Nat}(h:a≤m.size):(m.extract a m.size).extract 0 (min (m.extract a m.size).size 16)=m.extract a (a+min (m.size - a) 16):=by
 have hs:(m.extract a m.size).size=m.size - a:=by rw[dU];omega
 rw[hs,ByteArray.extract_extract];congr 1<;>omega
theorem Xc(m:ByteArray)(line:Nat)(hm:m.size≤1000000)(hline:line≤4294967295):bY C0 199 [.v (.string m),vU line] (.v (.string (EG m line))):=by
 refine bY.intro c0Ok Tryz.func199 rfl rfl (by kernel_rfl) rfl<|cSR<|oR 1 rfl<|rE 1<|cSR<|oR 1 rfl<|rCi rfl (qD line hline)<|oR 1 rfl<|rE 4<|aE<|cSR<|oR 1 rfl<|rW (.v (.int .u64 ((lineOf line:Nat):Int))) rfl (okI (Hr (dF hline) rfl)) ?_;refine oR 1 rfl<|rV (vN m.size) rfl<|rW (.v (.int .u64 ((m.size:Nat):Int))) rfl (okI (Hr hm rfl))<|rW (vB (decide ((lineOf line)≥m.size))) rfl (okB (geN _ _))<|rE 10 ?_;refine aU rfl (λ h1=>?_) (λ h1=>?_)
 ·have h1p:=of_decide_eq_true h1;refine cSR<|oR 1 rfl<|rE 11<|cT ?_;exact fT rfl (by unfold EG;rw[if_neg omT];rfl)
 ·have h1p:=aD h1;refine aZ<|cSR<|oR 2 rfl ?_;refine nW (.v (.string (m.extract (lineOf line) m.size))) rfl rfl (by refine⟨?_,?_,?_⟩<;>(first|exact aI _|decide|(apply Eo.2;exact omT))) ?_;refine oR 1 rfl<|rE 14<|cSR<|oR 2 rfl<|rV (vN ((m.extract (lineOf line) m.size).size)) rfl<|rW (vN (min ((m.extract (lineOf line) m.size).size) 16)) rfl (Bp ((m.extract (lineOf line) m.size).size) 16) ?_;refine nW (.v (.string ((m.extract (lineOf line) m.size).extract 0 (min ((m.extract (lineOf line) m.size).size) 16)))) rfl rfl (by refine⟨?_,?_,?_⟩<;>(first|exact aI _|decide|(apply Eo.2;exact omT))) ?_;refine oR 1 rfl<|rE 20<|cT ?_;exact fT rfl (by unfold EG;rw[if_pos omT,ON omT];rfl)
end Go.Proofs.YtlhofpglndhfaaaGreatDoor
