/- Joined texts. -/
import Derived.Test.YtlhofpglndhfaaaGreatDoorS1
import Derived.Test.YtlhofpglndhfaaaGreatDoorS21
import Derived.Test.YtlhofpglndhfaaaGreatDoorS23
import Derived.Test.YtlhofpglndhfaaaGreatDoorS31
import Derived.Test.YtlhofpglndhfaaaGreatDoorS33
set_option linter.unusedVariables false
set_option linter.unusedSimpArgs false
namespace Go.Proofs.YtlhofpglndhfaaaGreatDoor
set_option maxRecDepth 100000
set_option maxHeartbeats 4000000
open Go.RowKit
theorem Sub.sl{rs:Nat}{rows rows':List (List AV)}{clip:Bool}(hl:rows.length=rows'.length)(hw:∀ (i:Nat) row row',rows[i]?=some row→rows'[i]?=some row'→row.length=row'.length∧∀ (j:Nat) a b,row[j]?=some a→row'[j]?=some b→Sub a b):Sub (.sl rs rows clip) (.sl rs rows' clip):=λ S w v h=>by
 cases h with
 | sl _ _ _ A c b o u hc hm hcl hrs hA hv h1 hr=>
  rw[hl];have back:∀ (i:Nat) row',rows'[i]?=some row'→∃ row,rows[i]?=some row:=λ i row' h=>⟨_,aA (by rw[hl];exact (Db.1 h).1)⟩;have back2:∀ (i:Nat) row row' (j:Nat) b,rows[i]?=some row→rows'[i]?=some row'→row'[j]?=some b→∃ a,row[j]?=some a:=λ i row row' j b h h' hj=>⟨_,aA (by rw[(hw i row row' h h').1];exact (Db.1 hj).1)⟩;refine .sl rs rows' clip A c b o u (hl ▸ hc) hm (λ e=>(hcl e).trans hl) (λ row' hr'=>?_) (λ h0=>hA omT) (λ i row' j a hi hj=>?_) h1 λ i row' j a hi hj=>?_
  ·obtain⟨i,hi,rfl⟩:=fU hr';obtain⟨row,hrow⟩:=back i _ (aA hi);rw[←(hw i row _ hrow (aA hi)).1];exact hrs row (aB hrow)
  ·obtain⟨row,hrow⟩:=back i row' hi;obtain⟨x,hx⟩:=back2 i row row' j a hrow hi hj;exact hv i row j x hrow hx
  ·obtain⟨row,hrow⟩:=back i row' hi;obtain⟨x,hx⟩:=back2 i row row' j a hrow hi hj;exact (hw i row row' hrow hi).2 j x a hx hj S w _ (hr i row j x hrow hx)
def VJ:List AV→List AV→Prop
 |[],[]=>True
 |a::xs,b::ys=>Sub a b∧VJ xs ys
 |_,_=>False
theorem VJ.get:∀ {xs ys:List AV},VJ xs ys→xs.length=ys.length∧∀ (i:Nat) a b,xs[i]?=some a→ys[i]?=some b→Sub a b
 |[],[],_=>⟨rfl,λ i a b h=>by simp at h⟩
 |x::xs,y::ys,h=>by
  obtain⟨h1,h2⟩:=VJ.get h.2;refine⟨by simp[h1],λ i a b ha hb=>?_⟩
  cases i with
  |zero=>simp at ha hb;subst ha;subst hb;exact h.1
  |succ i=>exact h2 i a b (by simpa using ha) (by simpa using hb)
 |[],_::_,h=>h.elim
 |_::_,[],h=>h.elim
theorem Sub.agg{xs ys:List AV}(h:VJ xs ys):Sub (.agg xs) (.agg ys):=λ S w v hv=>by
 cases hv with
 |agg _ vs hl h1 hr=>
  refine .agg ys vs (h.get.1 ▸ hl) h1 λ i b u p q=>?_;have hi:i<xs.length:=by rw[h.get.1];exact (Db.1 p).1
  exact h.get.2 i xs[i] b (aA hi) p S w u (hr i _ u (aA hi) q)
theorem Sub.tup{xs ys:List AV}(h:VJ xs ys):Sub (.tup xs) (.tup ys):=λ S w v hv=>by
 cases hv with
 |tup _ vs hl hr=>
  refine .tup ys vs (h.get.1 ▸ hl) λ i b u p q=>?_;have hi:i<xs.length:=by rw[h.get.1];exact (Db.1 p).1
  exact h.get.2 i xs[i] b (aA hi) p S w u (hr i _ u (aA hi) q)
theorem Sub.clip(rs:Nat)(rows:List (List AV))(c:Bool):Sub (.sl rs rows c) (.sl rs rows false):=λ S w v h=>by
 cases h with
 |sl _ _ _ A c0 b o u hc hm hcl hrs hA hw h1 hr=>exact .sl rs rows false A c0 b o u hc hm (λ h=>by cases h) hrs hA hw h1 hr
theorem Lp(n:Nat):Sub (.sl 1 (List.replicate n [VN]) false) (.sl 1 (List.replicate n (cB [])) false):=by
 refine Sub.sl (by simp) λ i row row' h h'=>?_;have e1:=iM (aB h);have e2:=iM (aB h');subst e1;subst e2;refine⟨rfl,λ j a b ha hb=>?_⟩
 cases j with
 |zero=>injection ha with ha;injection hb with hb;subst ha;subst hb;exact uP 3 false
 |succ j=>simp at ha
abbrev gsL(x:Gs):List AV:=[.v (.int .u32 (x.pc:Int)),.v (.int .u32 (x.next:Int))]
abbrev guL(g:Gu):List AV:=[.sl 2 (g.slots.map gsL) false,.v (.int .u32 (g.hist:Int)),.sl 1 (g.rets.map eJ) false]
theorem SE(sets ways:Int):bY C0 41 [vI sets,vI ways] (.agg (caL (BT sets ways) false)):=by
 refine bY.intro c0Ok Tryz.func41 rfl rfl (by kernel_rfl) rfl ?_;obtain⟨L,hLe,hL,hL1⟩:∃ L:Nat,aV sets 1 4=(L:Int)∧L≤4∧1≤L:=⟨(aV sets 1 4).toNat,by unfold aV;(repeat' split)<;>omega,by unfold aV;(repeat' split)<;>omega,by unfold aV;(repeat' split)<;>omega⟩;refine aE<|aG rfl<|rAl 0 rfl rfl<|rE 1<|aE<|aG rfl<|oR 1 rfl<|rV (vI (if 1>sets then 1 else sets)) rfl<|rW (vN L) rfl (congrArg (λ z:Int=>Res.ok (.v (.int .i64 z))) hLe)<|oR 1 rfl<|rE 5<|aE<|aE<|aG rfl<|oR 1 rfl<|rW (vB (L==3)) rfl (okB (eqN _ _)) ?_;refine rE 7 ?_;refine aU rfl (λ h1=>?_) (λ h1=>?_)
 ·refine aG rfl<|oR 1 rfl<|rE 8<|aE<|aG rfl<|oR 1 rfl<|rV (vI (if 1>ways then 1 else ways)) rfl<|rV (vI (if 2<(if 1>ways then 1 else ways)then 2 else (if 1>ways then 1 else ways))) rfl<|oR 1 rfl<|rFx (x:=.osl 12 0 2 false) (h':=upd _ 12 (some (.arr (List.replicate 2 [.sl 0 ([]) true]) 1))) rfl rfl (rfl) (⟨by decide,by decide,by decide⟩)<|rV (.agg [vI (if 2<(if 1>ways then 1 else ways)then 2 else (if 1>ways then 1 else ways)),.osl 12 0 2 false]) rfl<|rSt rfl<|rE 15<|cT ?_;have e:(BT sets ways).sets=List.replicate 2 []:=by show List.replicate (if aV sets 1 4=3 then 2 else aV sets 1 4).toNat []=_;rw[hLe];rw[if_pos (by have:L=3:=(by simpa using h1);omega)];rfl
  refine⟨_,rfl,⟨trivial,by show 0+2≤(List.replicate 2 [VN]).length;rw[cU];omega,trivial⟩,rfl,Sub.agg ⟨Sub.refl _,?_,trivial⟩⟩;show Sub (.sl 1 (List.take 2 (List.drop 0 (List.replicate 2 [VN]))) false) (.sl 1 ((BT sets ways).sets.map cB) false);rw[e,cQ,aN (by rw[cU];exact aC _),gI];exact Lp 2
 ·refine aZ<|aE<|aG rfl<|oR 1 rfl<|rV (vI (if 1>ways then 1 else ways)) rfl<|rV (vI (if 2<(if 1>ways then 1 else ways)then 2 else (if 1>ways then 1 else ways))) rfl<|oR 1 rfl<|rFx (x:=.osl 11 0 L false) (h':=upd _ 11 (some (.arr (List.replicate L [.sl 0 ([]) true]) 1))) rfl rfl (rfl) (⟨aI _,kH _,by show (L:Int)≤1000000;have:=hL;omega⟩)<|rV (.agg [vI (if 2<(if 1>ways then 1 else ways)then 2 else (if 1>ways then 1 else ways)),.osl 11 0 L false]) rfl<|rSt rfl<|rE 14<|cT ?_;have e:(BT sets ways).sets=List.replicate L []:=by show List.replicate (if aV sets 1 4=3 then 2 else aV sets 1 4).toNat []=_;rw[hLe];rw[if_neg (by have: ¬ L=3:=(by simpa using h1);omega)];rfl
  refine⟨_,rfl,⟨trivial,by show 0+L≤(List.replicate L [VN]).length;rw[cU];omega,trivial⟩,rfl,Sub.agg ⟨Sub.refl _,?_,trivial⟩⟩;show Sub (.sl 1 (List.take L (List.drop 0 (List.replicate L [VN]))) false) (.sl 1 ((BT sets ways).sets.map cB) false);rw[e,cQ,aN (by rw[cU];exact aC _),gI];exact Lp L
theorem VK:bY C0 43 [] (.agg (guL VQ)):=by
 refine bY.intro c0Ok Tryz.func43 rfl rfl (by kernel_rfl) rfl<|aE<|aG rfl<|rAl 0 rfl rfl<|rE 1<|aE<|aG rfl<|rFx (x:=.osl 1 0 8 false) (h':=upd _ 1 (some (.arr (List.replicate 8 [.v (.int .u32 0),.v (.int .u32 0)]) 2))) rfl rfl (rfl) (⟨by decide,by decide,by decide⟩)<|rV (.agg [.osl 1 0 8 false,.v (.int .u32 0),.sl 0 ([]) true]) rfl<|rSt rfl<|rE 4<|cT ?_;refine⟨_,rfl,⟨by show 0+8≤_;decide,trivial,trivial,trivial⟩,rfl,Sub.agg ⟨Sub.refl _,Sub.refl _,uP 1 false,trivial⟩⟩
abbrev ftL(x:Ft):List AV:=[.v (.int .u32 (x.pc:Int)),.v (.int .u32 (x.guess:Int))]
abbrev ptL(x:Pt):List AV:=[.v (.int .u32 (x.addr:Int)),.v (.string x.data)]
abbrev enL(e:Ent):List AV:=[.v (.int .i64 e.no),.v (.int .u32 (e.pc:Int)),.v (.int .i64 e.i.op),.v (.int .i64 e.i.rd),.v (.int .i64 e.i.rs1),.v (.int .i64 e.i.rs2),.v (.int .u32 (e.i.imm:Int)),.v (.int .u32 (e.guess:Int)),.v (.int .i64 e.is),.v (.int .i64 e.left),.v (.int .u32 (e.value:Int)),.v (.int .u32 (e.next:Int)),.v (.int .u32 (e.addr:Int)),.v (.int .i64 e.halt),.v (.int .i64 e.took),.v (.bool e.known),.v (.bool e.filled)]
abbrev coL(c:Co):List AV:=[.v (.int .i64 c.conf.mode),.v (.int .i64 c.conf.width),.v (.int .i64 c.conf.rob),.v (.int .i64 c.conf.queue),.v (.int .i64 c.conf.stores),.v (.int .i64 c.conf.slots),.v (.int .i64 c.conf.sets),.v (.int .i64 c.conf.ways),.sl 1 (c.conf.lat.map fD) false,.v (.bool c.conf.tables),.sl 1 (c.conf.tape.map eJ) false,.sl 1 (c.prog.map eJ) false,.v (.int .i64 c.cycle),.v (.int .u32 (c.r 0:Int)),.v (.int .u32 (c.r 1:Int)),.v (.int .u32 (c.r 2:Int)),.v (.int .u32 (c.r 3:Int)),.v (.int .u32 (c.r 4:Int)),.v (.int .u32 (c.r 5:Int)),.v (.int .u32 (c.r 6:Int)),.v (.int .u32 (c.r 7:Int)),.v (.int .u32 (c.r 8:Int)),.v (.int .u32 (c.r 9:Int)),.v (.int .u32 (c.r 10:Int)),.v (.int .u32 (c.r 11:Int)),.v (.int .u32 (c.r 12:Int)),.v (.int .u32 (c.r 13:Int)),.v (.int .u32 (c.r 14:Int)),.v (.int .u32 (c.r 15:Int)),.v (.int .u32 (c.r 16:Int)),.v (.int .u32 (c.r 17:Int)),.v (.int .u32 (c.r 18:Int)),.v (.int .u32 (c.r 19:Int)),.v (.int .u32 (c.r 20:Int)),.v (.int .u32 (c.r 21:Int)),.v (.int .u32 (c.r 22:Int)),.v (.int .u32 (c.r 23:Int)),.v (.int .u32 (c.r 24:Int)),.v (.int .u32 (c.r 25:Int)),.v (.int .u32 (c.r 26:Int)),.v (.int .u32 (c.r 27:Int)),.v (.int .u32 (c.r 28:Int)),.v (.int .u32 (c.r 29:Int)),.v (.int .u32 (c.r 30:Int)),.v (.int .u32 (c.r 31:Int)),.v (.int .u32 (c.fetch:Int)),.v (.bool c.stop),.sl 2 (c.fetched.map ftL) false,.sl 17 (c.rob.map enL) false,.v (.int .i64 c.next),.sl 2 (c.stores.map ptL) false,.v (.int .i64 c.data.ways),.sl 1 (c.data.sets.map cB) false,.v (.int .i64 c.words.ways),.sl 1 (c.words.sets.map cB) false,.sl 4 (c.bus.map rqL) false,.v (.int .i64 c.asked),.v (.int .i64 c.guessed),.v (.string c.mem),.sl 2 (c.guess.slots.map gsL) false,.v (.int .u32 (c.guess.hist:Int)),.sl 1 (c.guess.rets.map eJ) false,.v (.int .i64 c.halt),.sl 9 (c.retired.map spL) false]
theorem bY.sub{C:Ctx}{f:FuncId}{args:List AV}{r r':AV}(h:bY C f args r)(k:Sub r r'):bY C f args r':=⟨h.1,λ S w vs a b c=>(h.2 S w vs a b c).mono λ e w' ⟨v,p,q,s⟩=>⟨v,p,q,k _ _ _ s⟩⟩
theorem OU(k:Nat):bY C0 40 [.v (.slice none 0 k)] (.sl 0 [] true):=by
 refine bY.intro c0Ok Tryz.func40 rfl rfl (by kernel_rfl) rfl<|aE<|aG rfl<|oR 1 rfl<|rE 1<|aE<|aE<|aG rfl<|oR 1 rfl<|rV (vB true) rfl<|rE 3 ?_;refine aU rfl (λ _=>?_) (λ h=>by cases h);refine aE<|aG rfl<|oR 1 rfl<|rE 4<|cT ?_;exact fT rfl rfl
theorem EE{P:Program}{w:World}(t ty e:TypeId)(i:TypeInfo)(ht:P.underlying t=some (.slice e))(hi:P.info? e=some i)(A0:Option Addr)(c0:Nat)(a:Addr)(k:Nat):
  (Builtin.append_ #[t,t] ty #[.slice A0 0 c0,.slice (some a) 0 k]).run P w=.ok (.slice A0 0 c0) w:=by
 have hl:(loadCells a 0).run P w=.ok #[] w:=rfl;cases A0<;>simp[Builtin.append_,run_underlying ht,sizeOf,typeInfo,hi,Builtin.lenOf,Builtin.firstCells,storeCells,hl]
theorem wQ{P:Program}{w:World}{ops:Array Oper}{rest:List Oper}{o:Oper}{a:Act}{Q:Exit→Act→World→Prop}(hgd:o.guard=none)(s x:Operand)(t:TypeId)
  (ho:o.op=.call {callee:=.builtin .append,args:= #[s,x],argTypes:= #[t,t]}) (e:TypeId) (i:TypeInfo) (ht:P.underlying t=some (.slice e)) (hi:P.info? e=some i)
  (A0:Option Addr) (c0:Nat) (b:Addr) (k:Nat) (hs:a.eval s=.slice A0 0 c0) (hx:a.eval x=.slice (some b) 0 k)
  (h:wpList P ops Q rest (a.put o.dst (.slice A0 0 c0)) w):wpList P ops Q (o::rest) a w:=by
 refine wpList_plain hgd λ K hK=>?_;have hrun:=EE (P:=P) (w:=w) t o.type e i ht hi A0 c0 b k;unfold Oper.wp;simp[execOp,ho,resolve,invoke,builtin,hs,hx,hrun,Result.andThen];exact hK _ _ h
theorem VL(a:Addr)(k:Nat)(w:World):Calls Tryz.prog 40 #[.slice (some a) 0 k] w λ e w'=>∃ v,e=.returned v∧Below w.heap.size w w'∧∃ A c,v=.slice A 0 c∧c≤maxLen:=by
 obtain⟨i0,z0,hi, -⟩:=(c0Ok.ty 26 _ rfl).info
 go_enter Tryz.func40,Tryz.ntmps40
 have hb:Sem.run Tryz.prog (binOp .eql 23 (.slice (some a) 0 k) (.slice none 0 0)) w=.ok (.bool false) w:=by
  have e1:(Op.equal 23 (.slice (some a) 0 k) (.slice none 0 0)).run Tryz.prog w=.ok (some a).isNone w:=As Tryz.prog w 9999 _ 26 (c0Ok.ty 23 _ rfl).kd _ _ _;simp only[binOp,Sem.run_bind,e1,Result.andThen_ok];rfl
 go_wp2_with (first|(rw[hb];simp only[Result.andThen_ok,Oper.upon])|(at_builtin;refine wQ rfl (.tmp 5) (.tmp 6) 23 rfl 26 i0 (c0Ok.ty 23 _ rfl).kd hi _ _ _ _ rfl rfl ?_))
 go_ret
 exact⟨_,rfl,(Below.refl _ _).alloc (aC _) _,_,_,rfl,aF _⟩
theorem TX(x:List AV)(xs:List (List AV))(ck:Bool)(hl:(x::xs).length≤1000000):bY C0 40 [.sl 1 (x::xs) ck] (.sl 1 (x::xs) false):=by
 refine bY.intro c0Ok Tryz.func40 rfl rfl (by kernel_rfl) rfl<|aE<|aG rfl<|oR 1 rfl<|rE 1<|aE<|aE<|aG rfl<|oR 1 rfl<|rV (vB false) rfl<|rE 3 ?_;refine aU rfl (λ h=>by cases h) (λ _=>?_);refine aZ<|aE<|aG rfl<|rV (.sl 1 ([]) true) rfl<|oR 1 rfl<|rFx (x:=.osl 5 0 (0+(x::xs).length) false) (h':=upd _ 5 (some (.arr (([])++(x::xs)) 1))) rfl rfl (rfl) (⟨by first|(exact Nat.succ_pos _)|(simp only[cW,bU];exact hl),by first|(exact Nat.succ_pos _)|(simp only[cW,bU];exact hl),trivial,trivial⟩)<|oR 1 rfl<|rE 7<|cT ?_;refine⟨_,rfl,(by show 0+(0+(x::xs).length)≤(x::xs).length;omega),rfl,?_⟩;show Sub (.sl 1 (List.take (0+(x::xs).length) (List.drop 0 ([]++(x::xs)))) false) _;rw[cQ,iN,bU,aN (aC _)];exact Sub.refl _
theorem VM(rows:List (List AV))(ck:Bool)(hl:rows.length≤1000000):bY C0 40 [.sl 1 rows ck] (.sl 1 rows false):=by
 match rows,hl with
 |x::xs,hl=>exact TX x xs ck hl
 | [],_=>
  refine⟨(OU 0).1,λ S w vs hS hG hr=>?_⟩
  match vs,hr with
  |[],hr=>simp[RepL]at hr
  |_::_::_,hr=>simp[RepL]at hr
  | [v],hr=>
   have h0:=hr.2 0 _ v rfl rfl
   cases h0 with
   | sl _ _ _ A c b o u hc hm hcl hrs hA hw h1 h'=>
    cases A with
    |none=>exact ((OU c).sub (uP 1 false)).2 S w _ hS hG (RepL.cons (.v _) (RepL.nil _ _ _))
    |some a=>
     exact (VL a c w).mono λ e w' ⟨v,h1,h2,A,c',h3,h4⟩=>⟨v,h1,h2,h3 ▸ .sl 1 [] false A c' 0 0 (λ _ _=>.bool false) (aF _) h4 (λ h=>by cases h) (λ _ h=>by cases h) (λ h=>absurd h (gX 0)) (λ i row j a h=>by simp at h) (λ _ _=>rfl) λ i row j a h=>by simp at h⟩
def vE(c:Cf)(prog:List Nat)(m:ByteArray):Co:=
 {conf:=bB c,prog:=prog.take (min prog.length 64),cycle:=0,r:=λ _=>0,fetch:=0,stop:=false,fetched:=[],rob:=[],next:=1,stores:=[],data:=BT (bB c).sets (bB c).ways,words:=BT (bB c).sets (bB c).ways,bus:=[],asked:=0,guessed:=0,mem:=qQ m,guess:=VQ,halt:=0,retired:=[]}
theorem SF(c:Cf)(prog:List Nat)(m:ByteArray)(hok:c.ok)(hl:prog.length≤1000000):bY C0 15 [.agg (cfL c false false),.sl 1 (prog.map eJ) false,.v (.string m)] (.agg (coL (vE c prog m))):=by
 refine bY.intro c0Ok Tryz.func15 rfl rfl (by kernel_rfl) rfl<|aE<|aG rfl<|rAl 0 rfl rfl<|rAl 1 rfl rfl<|rE 2<|aE<|aG rfl<|oR 1 rfl<|rCi rfl (GP c false false hok)<|rSt rfl<|rE 5<|aE<|aG rfl<|oR 3 rfl<|rW (vN prog.length) rfl (bQ eJ prog) ?_;refine rW (vN (min prog.length 64)) rfl (Bp prog.length 64)<|nW (.sl 1 (List.drop 0 (List.take (min prog.length 64) (prog.map eJ))) false) rfl rfl (⟨kH _,by show (0:Int)≤((min prog.length 64:Nat):Int);omega,by show ((min prog.length 64:Nat):Int)≤(((prog.map eJ).length:Nat):Int);rw[aO];omega⟩)<|rCi rfl (VM (List.drop 0 (List.take (min prog.length 64) (prog.map eJ))) _ (by rw[bA,aQ,aO];omega))<|oR 4 rfl<|rCi rfl (SE (bB c).sets (bB c).ways)<|oR 4 rfl<|rCi rfl (SE (bB c).sets (bB c).ways)<|oR 1 rfl<|rCi rfl (SK m)<|rCi rfl (VK)<|rV (.agg [vI ((bB c).mode),vI ((bB c).width),vI ((bB c).rob),vI ((bB c).queue),vI ((bB c).stores),vI ((bB c).slots),vI ((bB c).sets),vI ((bB c).ways),.sl 1 ((bB c).lat.map fD) false,vB ((bB c).tables),.sl 1 ((bB c).tape.map eJ) false,.sl 1 (List.drop 0 (List.take (min prog.length 64) (prog.map eJ))) false,vI 0,zU,zU,zU,zU,zU,zU,zU,zU,zU,zU,zU,zU,zU,zU,zU,zU,zU,zU,zU,zU,zU,zU,zU,zU,zU,zU,zU,zU,zU,zU,zU,zU,zU,vB false,.sl 0 ([]) true,.sl 0 ([]) true,vI 1,.sl 0 ([]) true,vI ((BT (bB c).sets (bB c).ways).ways),.sl 1 ((BT (bB c).sets (bB c).ways).sets.map cB) false,vI ((BT (bB c).sets (bB c).ways).ways),.sl 1 ((BT (bB c).sets (bB c).ways).sets.map cB) false,.sl 0 ([]) true,vI 0,vI 0,.v (.string (qQ m)),.sl 2 (VQ.slots.map gsL) false,vU VQ.hist,.sl 1 (VQ.rets.map eJ) false,vI 0,.sl 0 ([]) true]) rfl<|rSt rfl<|rE 27<|cT ?_;exact⟨_,rfl,tvT,rfl,Sub.agg ⟨Sub.refl _,Sub.refl _,Sub.refl _,Sub.refl _,Sub.refl _,Sub.refl _,Sub.refl _,Sub.refl _,Sub.refl _,Sub.refl _,Sub.refl _,(by show Sub (.sl 1 (List.drop 0 (List.take (min prog.length 64) (prog.map eJ))) false) (.sl 1 ((prog.take (min prog.length 64)).map eJ) false);rw[cQ, ←fO];exact Sub.refl _),Sub.refl _,Sub.refl _,Sub.refl _,Sub.refl _,Sub.refl _,Sub.refl _,Sub.refl _,Sub.refl _,Sub.refl _,Sub.refl _,Sub.refl _,Sub.refl _,Sub.refl _,Sub.refl _,Sub.refl _,Sub.refl _,Sub.refl _,Sub.refl _,Sub.refl _,Sub.refl _,Sub.refl _,Sub.refl _,Sub.refl _,Sub.refl _,Sub.refl _,Sub.refl _,Sub.refl _,Sub.refl _,Sub.refl _,Sub.refl _,Sub.refl _,Sub.refl _,Sub.refl _,Sub.refl _,Sub.refl _,uP 2 false,uP 17 false,Sub.refl _,uP 2 false,Sub.refl _,Sub.refl _,Sub.refl _,Sub.refl _,uP 4 false,Sub.refl _,Sub.refl _,Sub.refl _,Sub.refl _,Sub.refl _,Sub.refl _,Sub.refl _,uP 9 false,trivial⟩⟩
theorem LD(l:List Nat)(k:Nat):(l.take k).sum≤l.sum:=by
 have:=congrArg List.sum (gA k l);rw[List.sum_append]at this;omega
noncomputable def CIR:Ctx:={P:=Tryz.prog,ty:=tys.find,G:=λ _=>none,H:=pJ Tryz.prog (λ _=>none)}
theorem cirOk:CtxOk CIR:=⟨TT.find_ok tys VT,by kernel_rfl,λ _ _ _ _ _ h=>h⟩
def UR(p:Nat×Nat):List AV:=[vN p.1,vN p.2]
def WB(f:Nat):Nat:=if 2≤f∧f≤7 then 2 else 0
theorem Uj(op:Int):bY CIR 190 [vI op] (vN (dK op)):=.of_flat Tryz.func190 rfl rfl rfl rfl λ w=>(Bc op w).mono λ _ _ ⟨a,b⟩=>⟨a,b ▸ qL _⟩
theorem VW(f:Nat)(hf:f≤8):bY CIR 193 [vN f] (.tup [vB (yZ f),vB (uL f),vB (vL f)]):=.of_tup Tryz.func193 rfl rfl rfl rfl λ w=>(JJ f hf w).mono λ _ _ ⟨a,b⟩=>⟨a,b ▸ qL _⟩
theorem CZ(x a n:Nat)(h1:1≤n)(h2:a+n≤32)(hx:x<4294967296):bY CIR 215 [vU x,vN a,vN n] (vU (field x a n)):=.of_flat Tryz.func215 rfl rfl rfl rfl λ w=>NH x a n w h1 h2 hx
theorem VX(x a n v:Nat)(h1:1≤n)(h2:a+n≤32)(hx:x<4294967296)(hv:v<4294967296):bY CIR 194 [vU x,vN a,vN n,vU v] (vU (setf x a n v)):=.of_flat Tryz.func194 rfl rfl rfl rfl λ w=>NI x a n v w h1 h2 hx hv
theorem Uk(x n:Nat)(h1:1≤n)(h2:n≤32)(hx:x<4294967296):bY CIR 197 [vU x,vN n] (vU (sext x n)):=.of_flat Tryz.func197 rfl rfl rfl rfl λ w=>Gl x n w h1 h2 hx
theorem RE:bY CIR 197 [vU 0,vN 0] (vU 0):=.of_flat Tryz.func197 rfl rfl rfl rfl λ w=>ND w
theorem VY(f:Nat)(hf:f≤8):bY CIR 191 [vN f] (.tup [.sl (WB f) ((eS f).map UR) true,vN (qC f)]):=by
 refine bY.intro cirOk Tryz.func191 rfl rfl (by kernel_rfl) rfl<|aE<|aG rfl<|oR 2 rfl<|rE 2<|aE<|aE<|aG rfl<|oR 1 rfl<|rE 3<|bI<|aE<|aG rfl<|rW (vB (f==2)) rfl (okB (eqN _ _))<|oR 1 rfl<|rE 5 ?_;refine aU rfl (λ h1=>?_) (λ h1=>?_)
 ·refine aE<|aG rfl<|rV (.agg [vI 20,vI 12]) rfl<|rV (.sl 2 ([[vI 20,vI 12]]) true) rfl<|oR 2 rfl<|rE 9<|cT ?_;obtain rfl:f=2:=by have z:=h1;simp at z;omega
  exact eW rfl rcT rfl rfl
 ·refine aE<|aG rfl<|rW (vB (f==3)) rfl (okB (eqN _ _))<|oR 1 rfl<|rE 7 ?_;refine aU rfl (λ h2=>?_) (λ h2=>?_)
  ·refine aE<|aG rfl<|rV (.agg [vI 20,vI 5]) rfl<|rV (.sl 2 ([[vI 20,vI 5]]) true) rfl<|oR 2 rfl<|rE 11<|cT ?_;obtain rfl:f=3:=by have z:=h2;simp at z;omega
   exact eW rfl rcT rfl rfl
  ·refine aE<|aG rfl<|rW (vB (f==4)) rfl (okB (eqN _ _))<|oR 1 rfl<|rE 9 ?_;refine aU rfl (λ h3=>?_) (λ h3=>?_)
   ·refine aE<|aG rfl<|rV (.agg [vI 7,vI 5]) rfl<|rV (.agg [vI 25,vI 7]) rfl<|rV (.sl 2 ([[vI 7,vI 5],[vI 25,vI 7]]) true) rfl<|oR 2 rfl<|rE 14<|cT ?_;obtain rfl:f=4:=by have z:=h3;simp at z;omega
    exact eW rfl rcT rfl rfl
   ·refine aE<|aG rfl<|rW (vB (f==5)) rfl (okB (eqN _ _))<|oR 1 rfl<|rE 11 ?_;refine aU rfl (λ h4=>?_) (λ h4=>?_)
    ·refine aE<|aG rfl<|rV (.agg [vI 8,vI 4]) rfl<|rV (.agg [vI 25,vI 6]) rfl<|rV (.agg [vI 7,vI 1]) rfl<|rV (.agg [vI 31,vI 1]) rfl<|rV (.sl 2 ([[vI 8,vI 4],[vI 25,vI 6],[vI 7,vI 1],[vI 31,vI 1]]) true) rfl<|oR 2 rfl<|rE 18<|cT ?_;obtain rfl:f=5:=by have z:=h4;simp at z;omega
     exact eW rfl rcT rfl rfl
    ·refine aE<|aG rfl<|rW (vB (f==6)) rfl (okB (eqN _ _))<|oR 1 rfl<|rE 13 ?_;refine aU rfl (λ h5=>?_) (λ h5=>?_)
     ·refine aE<|aG rfl<|rV (.agg [vI 12,vI 20]) rfl<|rV (.sl 2 ([[vI 12,vI 20]]) true) rfl<|oR 2 rfl<|rE 17<|cT ?_;obtain rfl:f=6:=by have z:=h5;simp at z;omega
      exact eW rfl rcT rfl rfl
     ·refine aE<|aG rfl<|rW (vB (f==7)) rfl (okB (eqN _ _))<|oR 1 rfl<|rE 15 ?_;refine aU rfl (λ h6=>?_) (λ h6=>?_)
      ·refine aE<|aG rfl<|rV (.agg [vI 21,vI 10]) rfl<|rV (.agg [vI 20,vI 1]) rfl<|rV (.agg [vI 12,vI 8]) rfl<|rV (.agg [vI 31,vI 1]) rfl<|rV (.sl 2 ([[vI 21,vI 10],[vI 20,vI 1],[vI 12,vI 8],[vI 31,vI 1]]) true) rfl<|oR 2 rfl<|rE 22<|cT ?_;obtain rfl:f=7:=by have z:=h6;simp at z;omega
       exact eW rfl rcT rfl rfl
      ·refine aZ<|aE<|aG rfl<|oR 2 rfl<|rE 17<|cT ?_;have hz:f=0∨f=1∨f=8:=by simp at h1 h2 h3 h4 h5 h6;omega
       rcases hz with rfl|rfl|rfl<;>exact eW rfl rcT rfl rfl
theorem VZ(x rs:Nat)(ps:List (Nat×Nat))(ck:Bool)(hx:x<4294967296)(hrs:ps≠[]→rs=2)(hok:JI ps)(hl:ps.length≤100):bY CIR 216 [vU x,.sl rs (ps.map UR) ck] (.tup [vU (rZ x ps).1,vN (rZ x ps).2]):=by
 refine bY.intro cirOk Tryz.func216 rfl rfl (by kernel_rfl) rfl<|aE<|aG rfl<|oR 2 rfl<|rE 2<|aE<|aG rfl<|oR 2 rfl<|rE 4<|aE<|aE<|aG rfl<|oR 1 rfl<|rW (vN ps.length) rfl (bQ UR ps)<|oR 1 rfl<|rE 7 ?_;refine bI<|kZ (κ:=Nat) (λ k=>⟨cI [(0,vU x),(10,.sl rs (ps.map UR) ck),(11,vN ps.length),(12,vN k),(6,vU (((ps.take k).foldl (yX x) (0,0)).1)),(7,vN (((ps.take k).foldl (yX x) (0,0)).2))],heapF [],7⟩) (λ k=>k≤ps.length) (λ k=>ps.length - k) 0 (λ s=>s) (Weak.of_lists (λ s=>s) wT trivial rfl) (aF _) ?_;intro k hk;have hkB:k≤100:=by omega
 have hsk:wL (ps.take k)≤32:=aL (by unfold wL;rw[fO];exact LD _ _) hok.2;have hi:=BJ x (ps.take k) (0,0) (by show 0<4294967296;omega) (λ p hp=>hok.1 p (cO hp)) omT;have hu:((ps.take k).foldl (yX x) (0,0)).1≤4294967295:=by omega
 have hv2:((ps.take k).foldl (yX x) (0,0)).2=wL (ps.take k):=hi.2.trans (bU _);have hv:((ps.take k).foldl (yX x) (0,0)).2≤32:=by omega
 refine aE<|aG rfl<|rW (vB (decide (k<ps.length))) rfl (okB (ltN _ _))<|rE 8<|aE ?_;refine aU rfl (λ h1=>?_) (λ h1=>?_)
 ·refine aZ<|aE<|bI<|aE<|aG rfl ?_;obtain⟨p,hp⟩:∃ p,ps[k]?=some p:=⟨_,aA (of_decide_eq_true h1)⟩;obtain rfl:=hrs (λ z=>by subst z;cases hp);obtain⟨p1,p2⟩:=hok.1 p (aB hp);have hp1:p.1≤32:=by omega
  have hp2:p.2≤32:=by omega
  have hsz:wL (ps.take (k+1))≤32:=aL (by unfold wL;rw[fO];exact LD _ _) hok.2;have hs2:wL (ps.take (k+1))=wL (ps.take k)+p.2:=by rw[bX,hp];simp[wL]
  have hfl:field x p.1 p.2<4294967296:=Nat.lt_of_lt_of_le (CP _ _ _) (xH omT);refine rIx (UR p) (.dp 2 0 (UR p)) rfl rfl (gJ hp) rfl<|oR 1 rfl<|rAl 10 rfl rfl<|rSt rfl<|rE 12<|aE<|aG rfl<|oR 9 rfl<|rCi rfl (CZ x p.1 p.2 p1 p2 hx)<|rCi rfl (VX ((ps.take k).foldl (yX x) (0,0)).1 ((ps.take k).foldl (yX x) (0,0)).2 p.2 (field x p.1 p.2) p1 omT omT hfl)<|oR 1 rfl<|rE 24<|aG rfl<|oR 3 rfl ?_;have b1:(((ps.take k).foldl (yX x) (0,0)).2)+p.2≤64:=aH hv hp2;refine rW (vN ((((ps.take k).foldl (yX x) (0,0)).2)+p.2)) rfl (okI (bS b1 rfl))<|oR 1 rfl<|rE 29<|aG rfl ?_;have b2:k+1≤101:=aH hkB (aC 1);refine rW (vN (k+1)) rfl (okI (bS b2 rfl))<|oR 1 rfl<|rE 31 ?_;refine⟨k+1,λ s=>s,Weak.of_lists (λ s=>s) ⟨⟨rfl,rfl⟩,⟨rfl,rfl⟩,⟨rfl,rfl⟩,⟨rfl,rfl⟩,⟨(congrArg (λ z:Nat×Nat=>AV.v (.int .u32 (z.1:Int))) (Du (yX x) (0,0) ps k p hp).symm),rfl⟩,⟨(congrArg (λ z:Nat×Nat=>AV.v (.int .i64 (z.2:Int))) (Du (yX x) (0,0) ps k p hp).symm),rfl⟩,trivial⟩ trivial rfl,of_decide_eq_true h1,by have:=of_decide_eq_true h1;show ps.length - (k+1)<ps.length - k;omega⟩
 ·refine eA<|aE<|aG rfl<|oR 4 rfl<|rE 12<|cT ?_;have hke:=aD h1;exact eW rfl rcT rfl (by rw[aN (show ps.length≤k by omega)];rfl)
theorem Xi{x c:Nat}(h:c≤32):IntKind.wrap .u32 ((x:Int) * 2 ^ (min (Int.toNat (c:Int)) (IntKind.bits .u32)))=((x * 2 ^ c % 4294967296:Nat):Int):=by
 rw[Int.toNat_natCast,show min c (IntKind.bits .u32)=c from rN h];show ((x:Int) * 2 ^ c) % 4294967296=_;have e:((x * 2 ^ c % 4294967296:Nat):Int)=((x * 2 ^ c:Nat):Int) % ((4294967296:Nat):Int):=Int.natCast_emod _ _;rw[e,Int.natCast_mul,Int.natCast_pow];rfl
theorem Wa(f:Nat):qC f≤12:=by unfold qC;split<;>decide
theorem RF(f x:Nat)(hf1:1≤f)(hf:f≤8)(h3:(f != 3)=true):bY CIR 197 [vU ((rZ x (eS f)).1 * 2 ^ qC f % 4294967296),vN ((rZ x (eS f)).2+qC f)] (vU (JG f x)):=by
 have h3:f≠3:=by simpa using h3
 rw[(Au x f).1];unfold JG;rw[if_neg h3];by_cases h:f=1∨f=8
 ·rw[if_pos h];rcases h with rfl|rfl<;>exact RE
 ·rw[if_neg h];have hs:1≤wL (eS f)+qC f∧wL (eS f)+qC f≤32:=by
   have:f=2∨f=4∨f=5∨f=6∨f=7:=by omega
   rcases this with rfl|rfl|rfl|rfl|rfl<;>decide
  exact Uk _ _ hs.1 hs.2 omT
theorem Ul(op:Int)(x f:Nat)(hfo:dK op=f)(hf1:1≤f)(hf:f≤8)(hx:x<4294967296):bY CIR 195 [vI op,vU x] (.agg [vI op,vN (cond (yZ f) (field x 7 5) 0),vN (cond (uL f) (field x 15 5) 0),vN (cond (vL f) (field x 20 5) 0),vU (JG f x)]):=by
 refine bY.intro cirOk Tryz.func195 rfl rfl (by kernel_rfl) rfl ?_;have hfrd:field x 7 5≤31:=aT (CP x 7 5);have hfrs1:field x 15 5≤31:=aT (CP x 15 5);have hfrs2:field x 20 5≤31:=aT (CP x 20 5);have hV:=aT (Au x f).2;have hZ:(rZ x (eS f)).2≤32:=by rw[(Au x f).1];exact (tZ f).2
 have hpl:(eS f).length≤100:=by unfold eS;split<;>decide
 have hne:eS f≠[]→WB f=2:=by unfold eS WB;intro h;split at h<;>first|rfl|exact absurd rfl h
 refine aE<|aG rfl<|rAl 0 rfl rfl<|rE 1<|aE<|aG rfl<|oR 1 rfl<|rCi rfl (hfo ▸ Uj op)<|oR 1 rfl<|rE 4<|aE<|aG rfl<|oR 1 rfl<|rV (.agg [vI op,vI 0,vI 0,vI 0,.v (.int .u32 0)]) rfl<|rAl 6 rfl rfl<|rSt rfl ?_;refine rE 8<|aE<|aG rfl<|oR 1 rfl<|rCi rfl (VW f hf)<|oR 7 rfl<|rE 17 ?_;refine Kg (κ:=Unit) (λ u_=>⟨cI [(1,vU x),(4,.ptr 0 0),(5,vN f),(6,.ptr 6 0),(8,vB (uL f)),(9,vB (vL f))],heapF [(0,.box [vI 0,vI 0,vI 0,vI 0,.v (.int .u32 0)]),(6,.box [vI op,vN (cond (yZ f) (field x 7 5) 0),vI 0,vI 0,.v (.int .u32 0)])],17⟩) (λ u_=>True) ?_ ?_
 ·refine aE<|aG rfl<|oR 1 rfl<|rE 18 ?_;refine aU rfl (λ h1=>?_) (λ h1=>?_)
  ·refine aG rfl<|oR 1 rfl<|rCi rfl (CZ x 7 5 (by decide) (by decide) hx)<|rW (vN (field x 7 5)) rfl (okI (bS hfrd rfl))<|oR 1 rfl<|rSt rfl<|rE 23 ?_;refine .mk _ (.refl _) ⟨(),λ s=>s,Weak.of_lists (λ s=>s) wT ⟨⟨rfl,rfl,rfl⟩,⟨rfl,(by rw[h1];rfl),rfl⟩,trivial⟩ rfl,rfl,trivial⟩
  ·refine aZ ?_;refine .mk _ (.refl _) ⟨(),λ s=>s,Weak.of_lists (λ s=>s) wT ⟨⟨rfl,rfl,rfl⟩,⟨rfl,(by rw[h1];rfl),rfl⟩,trivial⟩ rfl,rfl,trivial⟩
 ·intro u_ _;refine Kg (κ:=Unit) (λ u_=>⟨cI [(1,vU x),(4,.ptr 0 0),(5,vN f),(6,.ptr 6 0),(9,vB (vL f))],heapF [(0,.box [vI 0,vI 0,vI 0,vI 0,.v (.int .u32 0)]),(6,.box [vI op,vN (cond (yZ f) (field x 7 5) 0),vN (cond (uL f) (field x 15 5) 0),vI 0,.v (.int .u32 0)])],17⟩) (λ u_=>True) ?_ ?_
  ·refine aE<|aG rfl<|oR 1 rfl<|rE 18 ?_;refine aU rfl (λ h2=>?_) (λ h2=>?_)
   ·refine aG rfl<|oR 1 rfl<|rCi rfl (CZ x 15 5 (by decide) (by decide) hx)<|rW (vN (field x 15 5)) rfl (okI (bS hfrs1 rfl))<|oR 1 rfl<|rSt rfl<|rE 23 ?_;refine .mk _ (.refl _) ⟨(),λ s=>s,Weak.of_lists (λ s=>s) wT ⟨⟨rfl,rfl,rfl⟩,⟨rfl,(by rw[h2];rfl),rfl⟩,trivial⟩ rfl,rfl,trivial⟩
   ·refine aZ ?_;refine .mk _ (.refl _) ⟨(),λ s=>s,Weak.of_lists (λ s=>s) wT ⟨⟨rfl,rfl,rfl⟩,⟨rfl,(by rw[h2];rfl),rfl⟩,trivial⟩ rfl,rfl,trivial⟩
  ·intro u_ _;refine Kg (κ:=Unit) (λ u_=>⟨cI [(1,vU x),(4,.ptr 0 0),(5,vN f),(6,.ptr 6 0)],heapF [(0,.box [vI 0,vI 0,vI 0,vI 0,.v (.int .u32 0)]),(6,.box [vI op,vN (cond (yZ f) (field x 7 5) 0),vN (cond (uL f) (field x 15 5) 0),vN (cond (vL f) (field x 20 5) 0),.v (.int .u32 0)])],17⟩) (λ u_=>True) ?_ ?_
   ·refine aE<|aG rfl<|oR 1 rfl<|rE 18 ?_;refine aU rfl (λ h3=>?_) (λ h3=>?_)
    ·refine aG rfl<|oR 1 rfl<|rCi rfl (CZ x 20 5 (by decide) (by decide) hx)<|rW (vN (field x 20 5)) rfl (okI (bS hfrs2 rfl))<|oR 1 rfl<|rSt rfl<|rE 23 ?_;refine .mk _ (.refl _) ⟨(),λ s=>s,Weak.of_lists (λ s=>s) wT ⟨⟨rfl,rfl,rfl⟩,⟨rfl,(by rw[h3];rfl),rfl⟩,trivial⟩ rfl,rfl,trivial⟩
    ·refine aZ ?_;refine .mk _ (.refl _) ⟨(),λ s=>s,Weak.of_lists (λ s=>s) wT ⟨⟨rfl,rfl,rfl⟩,⟨rfl,(by rw[h3];rfl),rfl⟩,trivial⟩ rfl,rfl,trivial⟩
   ·intro u_ _;refine aE<|aG rfl<|oR 1 rfl<|rCi rfl (VY f hf)<|oR 5 rfl<|rE 24<|aE<|aG rfl<|oR 2 rfl<|rCi rfl (VZ x (WB f) (eS f) true hx hne (tZ f) hpl)<|oR 5 rfl<|rE 32<|aE<|aG rfl<|oR 2 rfl<|nW (vU ((rZ x (eS f)).1 * 2 ^ qC f % 4294967296)) rfl (Jn (Xi (aL (Wa f) (by decide)))) (aI _) ?_;refine oR 1 rfl<|rSt rfl<|rE 37 ?_;refine Kg (κ:=Unit) (λ u_=>⟨cI [(4,.ptr 0 0),(6,.ptr 6 0)],heapF [(0,.box [vI 0,vI 0,vI 0,vI 0,.v (.int .u32 0)]),(6,.box [vI op,vN (cond (yZ f) (field x 7 5) 0),vN (cond (uL f) (field x 15 5) 0),vN (cond (vL f) (field x 20 5) 0),vU (JG f x)])],37⟩) (λ u_=>True) ?_ ?_
    ·refine aE<|aG rfl<|oR 1 rfl<|rW (vB (f != 3)) rfl (okB (neN _ _))<|rE 39 ?_;refine aU rfl (λ h4=>?_) (λ h4=>?_)
     ·refine aG rfl<|oR 4 rfl ?_;have b1:((rZ x (eS f)).2)+(qC f)≤44:=aH hZ (Wa f);refine rW (vN (((rZ x (eS f)).2)+(qC f))) rfl (okI (bS b1 rfl))<|rCi rfl (RF f x hf1 hf h4)<|oR 1 rfl<|rSt rfl<|rE 47 ?_;refine .mk _ (.refl _) ⟨(),λ s=>s,Weak.of_lists (λ s=>s) wT wH rfl,rfl,trivial⟩
     ·refine aZ ?_;refine .mk _ (.refl _) ⟨(),λ s=>s,Weak.of_lists (λ s=>s) wT ⟨⟨rfl,rfl,rfl⟩,⟨rfl,(by rw[show f=3 by simpa using h4];rfl),rfl⟩,trivial⟩ rfl,rfl,trivial⟩
    ·intro u_ _;refine aE<|aG rfl<|oR 1 rfl<|rSt rfl<|rE 39<|cT ?_;exact eW rfl rcT rfl rfl
theorem BX:NC:=λ op x w hop hx=>by
 have h2:dK op≠0:=by unfold dK;repeat' (split<;>try omega)
 have h:=bY.flat (Ul op x (dK op) rfl (eR h2) (yY op) hx) (λ _ _ _ _ h=>by cases h) rfl rfl w;refine h.mono λ e w' ⟨he,hB⟩=>⟨he.trans ?_,hB⟩;show Ending.returned (.agg #[.int .i64 op,.int .i64 _,.int .i64 _,.int .i64 _,.int .u32 _])=_;unfold SI.val yK;cases yZ (dK op)<;>cases uL (dK op)<;>cases vL (dK op)<;>rfl
theorem Kk(x:Nat)(hx:x<4294967296):bY C0 169 [.v (.int .u32 (x:Int))] (.tup [siA (fS x),.v (.int .i64 ((decE x:Nat):Int))]):=
 .of_tupG Tryz.func169 rfl rfl rfl rfl λ S w hG=>Mi BX x w (BU hG) hx
def isK(e:Ent)(k:Nat):Bool:=decide (kindOf e.i.op=k)
def tJ(e:Ent)(a b:Nat):Nat:=if wr e.i=0 then 0 else Pa e.i.op e.i.imm e.pc a b
def qO(e:Ent)(a b:Nat):Ent:=
 if e.is≠0∨kindOf e.i.op=3∨kindOf e.i.op=4 then e
 else if kindOf e.i.op=1 then {e with is:=1,value:=tJ e a b,next:=up4 e.pc,left:=3}
 else if kindOf e.i.op=2 then {e with is:=1,value:=tJ e a b,next:=up4 e.pc,took:=AB e.i.op a b,left:=AB e.i.op a b}
 else if kindOf e.i.op=5 then
  if wD e.i.op e.i.imm e.pc a b % 4=0 then {e with is:=1,value:=tJ e a b,next:=wD e.i.op e.i.imm e.pc a b,left:=1}
  else {e with is:=1,value:=0,next:=up4 e.pc,left:=1,halt:=3}
 else {e with is:=1,value:=tJ e a b,next:=up4 e.pc,left:=1}
def goE(e:Ent):Ent:=
 if e.is≠1 then e
 else if wrap64 (e.left - 1)≤0 then {e with left:=0,is:=3,known:=if kindOf e.i.op=5∧e.halt=0 then true else e.known}
 else {e with left:=wrap64 (e.left - 1)}
def vY(e:Ent)(size:Int)(a:Nat):Ent:=
 if (kindOf e.i.op≠3∧kindOf e.i.op≠4)∨e.is≠0∨e.known=true then e
 else if oU size ((a+e.i.imm) % 4294967296) (dS e.i.op)=true then {e with addr:=(a+e.i.imm) % 4294967296,known:=true}
 else {e with addr:=(a+e.i.imm) % 4294967296,halt:=if kindOf e.i.op=4 then 5 else 4,is:=3}
def tP(e:Ent)(s:ByteArray):Ent:=
 if kindOf e.i.op≠3∨e.known=false∨(e.is≠0∧e.is≠2)then e
 else {e with is:=1,left:=1,value:=if wr e.i=0 then 0 else loadP e.i.op s}
def tK(e:Ent)(b:Nat):Ent:=
 if kindOf e.i.op≠4∨e.known=false∨e.is≠0 then e else {e with is:=3,value:=valB b (dS e.i.op)}
def aP(e:Ent):Sp:=
 if e.halt≠0 then ⟨e.pc,e.pc,0,0,if e.halt=4∨e.halt=5 then e.addr else 0,0,false,e.halt,0⟩
 else if kindOf e.i.op=4 then ⟨e.pc,up4 e.pc,wr e.i,e.value,e.addr,(dS e.i.op:Nat),true,0,0⟩
 else if kindOf e.i.op=3 then ⟨e.pc,up4 e.pc,wr e.i,if wr e.i≠0 then e.value else 0,e.addr,(dS e.i.op:Nat),false,0,0⟩
 else if kindOf e.i.op=2 then ⟨e.pc,up4 e.pc,wr e.i,if wr e.i≠0 then e.value else 0,0,0,false,0,e.took⟩
 else if kindOf e.i.op=5 then ⟨e.pc,e.next,wr e.i,if wr e.i≠0 then e.value else 0,0,0,false,0,0⟩
 else ⟨e.pc,up4 e.pc,wr e.i,if wr e.i≠0 then e.value else 0,0,0,false,0,0⟩
def CB(o:Option Nat):Int:=match o with|some k=>k|none=> -1
def Lo(e:Ent):Bool:=decide (kindOf e.i.op=5)&&e.known&&decide (e.next≠e.guess)
def wO(rob:List Ent):Option Nat:=rob.findIdx? Lo
def BP(rob:List Ent)(i:Nat):List Ent:=match rob[i]? with|some e=>rob.take i++[{e with guess:=e.next}]|none=>rob
def TU(i:SI):Bool:=decide (1≤i.op)&&decide (i.op≤48)&&decide ((yK i.op (Hm i)).op=i.op)&&decide ((yK i.op (Hm i)).rd=i.rd)&&decide ((yK i.op (Hm i)).rs1=i.rs1)&&decide ((yK i.op (Hm i)).rs2=i.rs2)&&decide ((yK i.op (Hm i)).imm=i.imm)
def vZ(e:Ent):Bool:=
 if e.is<0∨e.is>3 then false
 else if (e.is=1∧e.left≤0)∨(e.is≠1∧e.left≠0)then false
 else if e.is=2∧(kindOf e.i.op≠3∨e.known=false)then false
 else if e.halt≠0∧e.is≠3∧ ¬ (e.is=1∧kindOf e.i.op=5∧e.halt=3)then false
 else if TU e.i=true then true else decide (e.halt=1)||decide (e.halt=2)
def VI(rob:List Ent)(i:Nat):Int:=match rob[i]? with|some e=>e.no|none=>0
def GK(rob:List Ent)(i:Nat):Bool:=match rob[i]? with|some e=>(i==0||decide (VI rob (i - 1)<e.no))&&vZ e|none=>true
def DS(rob:List Ent):Bool:=decide (rob.length≤8)&&(List.range rob.length).all (GK rob)
def pN(no:Int)(f:Ft)(prog:List Nat):Ent:=
 if (fetchP prog f.pc).isSome=false then {Br with no:=no,pc:=f.pc,guess:=f.guess,halt:=1,is:=3}
 else if MX (fetchW prog f.pc)=0 then {Br with no:=no,pc:=f.pc,guess:=f.guess,halt:=2,is:=3}
 else if (fS (fetchW prog f.pc)).op=47 then {Br with no:=no,pc:=f.pc,guess:=f.guess,i:=fS (fetchW prog f.pc),halt:=6,is:=3}
 else if (fS (fetchW prog f.pc)).op=48 then {Br with no:=no,pc:=f.pc,guess:=f.guess,i:=fS (fetchW prog f.pc),halt:=7,is:=3}
 else {Br with no:=no,pc:=f.pc,guess:=f.guess,i:=fS (fetchW prog f.pc)}
def JZ(rob:List Ent)(reg:Int)(k:Nat):Bool:=match rob[k]? with|some e=>decide (wr e.i=reg)|none=>false
def zI(rob:List Ent)(reg:Int):Nat→Option Nat
 |0=>none
 |n+1=>if JZ rob reg n=true then some n else zI rob reg n
def gQ(rob:List Ent)(i:Nat)(reg:Int):Option Nat:=if reg<1∨reg>31 then none else zI rob reg (min i rob.length)
def kN(rob:List Ent)(r:Nat→Nat)(i:Nat)(reg:Int):Option Nat:=
 if reg=0 then some 0
 else if reg<0∨reg>31 then none
 else match gQ rob i reg with
  |none=>some (r reg.toNat)
  |some k=>match rob[k]? with
   |some e=>if e.is=3∧e.halt=0 then some e.value else none
   |none=>none
def lE(rob:List Ent)(r:Nat→Nat)(i:Nat):Nat×Nat×Bool:=
 match rob[i]? with
 |some e=>((kN rob r i e.i.rs1).getD 0,(kN rob r i e.i.rs2).getD 0,(kN rob r i e.i.rs1).isSome&&(kN rob r i e.i.rs2).isSome)
 |none=>(0,0,false)
def Ka(e:Ent):Bool:=if e.halt≠0 then false else if kindOf e.i.op=6 then false else if kindOf e.i.op=3∨kindOf e.i.op=4∨kindOf e.i.op=5 then e.known else true
def Bn(rob:List Ent):Nat:=rob.findIdx λ e=> !Ka e
def tW(rob:List Ent)(i:Nat):Bool:=decide (i≤rob.length)&&decide (i≤Bn rob)
def rO(roots:List Int)(k:Option Nat):Int:=match k with|some k=>roots.getD k (-1)|none=> -1
def Ct(rob:List Ent)(roots:List Int)(k:Nat):Int:=
 match rob[k]? with
 |some e=>if kindOf e.i.op≠3 then max (rO roots (gQ rob k e.i.rs1)) (rO roots (gQ rob k e.i.rs2))else if k>Bn rob then k else -1
 |none=> -1
def eO(rob:List Ent):Nat→List Int
 |0=>[]
 |k+1=>eO rob k++[Ct rob (eO rob k) k]
def yI(rob:List Ent):List Int:=eO rob rob.length
def GL(rob:List Ent)(i:Nat)(reg:Int):Bool:=match gQ rob i reg with|some k=>decide (0≤(yI rob).getD k (-1))|none=>false
def Cu(e:Ent):Bool:=decide (kindOf e.i.op=3∨kindOf e.i.op=4∨kindOf e.i.op=2∨kindOf e.i.op=5)
def pO(e:Ent):List Int:=if kindOf e.i.op=3∨kindOf e.i.op=4 then [e.i.rs1]else [e.i.rs1,e.i.rs2]
def MY(mode:Int)(rob:List Ent)(i:Nat):Bool:=
 match rob[i]? with
 |none=>false
 |some e=>if Cu e=false then true
  else if mode=0 then true
  else if mode=1 then (pO e).all λ reg=> !GL rob i reg
  else if mode=2 then tW rob i
  else false
structure Std where
 addr:Nat
 size:Nat
 data:ByteArray
 there:Bool
def DT(e:Ent):Std:=⟨e.addr,dS e.i.op,rP e.value (dS e.i.op),decide (e.is=3)⟩
def BQ(p:Pt):Std:=⟨p.addr,p.data.size,p.data,true⟩
def EC(rob:List Ent)(stores:List Pt):List Std:=((rob.filter λ e=>isK e 4).map DT).reverse++(stores.map BQ).reverse
def ED(a n b m:Nat):Bool:=decide (0<n)&&decide (0<m)&&decide (a<b+m)&&decide (b<a+n)
def DU(a n b m:Nat):Bool:=decide (0<m)&&decide (a≤b)&&decide (b+m≤a+n)
def wA(at_ n:Nat):List Std→Int×ByteArray
 |[]=>(2,mH)
 |s::l=>if ED s.addr s.size at_ n=false then wA at_ n l
  else if DU s.addr s.size at_ n=false∨s.there=false then (0,mH)
  else (1,s.data.extract (at_ - s.addr) (at_ - s.addr+n))
def zJ(e:Ent):Bool:=isK e 4&&(!e.known||decide (e.halt≠0))
def kO(rob:List Ent)(stores:List Pt)(i:Nat):Int×ByteArray:=
 match rob[i]? with
 |none=>(0,mH)
 |some e=>if kindOf e.i.op≠3 then (0,mH)
  else if (rob.take i).any zJ=true then (0,mH)
  else wA e.addr (dS e.i.op) (EC (rob.take i) stores)
def gD(r:Nat→Nat)(s:Sp):Nat→Nat:=if 1≤s.rd∧s.rd≤31∧s.halt=0 then Ua r s.rd.toNat s.value else r
def gE(s:Sp):Option Pt:=if s.store=false∨s.halt≠0∨(s.size≠1∧s.size≠2∧s.size≠4)then none else some ⟨s.addr,rP s.value s.size.toNat⟩
def gK(c:Ca)(q:List Req)(m:ByteArray)(line:Nat)(left:Int):Ca×List Req×Bool:=
 if fY c=false then (c,q,false)
 else if (bE c (lineOf line)).2.isSome=true then (sK c (lineOf line),q,false)
 else match qF c (lineOf line) (EG (jO q m) (lineOf line)) false with
  |(d,gone,went)=>if went=true∧gone.dirty=true∧gone.data.size≠0 then (d,wB q 4 gone.line left gone.data,true)else (d,q,false)
def pV(stores:List Pt)(c:Ca):List Pt×Ca×Bool:=
 match stores with
 |[]=>(stores,c,false)
 |p::l=>if (wC c p.addr p.data).2=true then (l,(wC c p.addr p.data).1,true)else (stores,c,false)
def iF(c:Co)(kind:Int)(line:Nat)(data:ByteArray):Co:={c with bus:=wB c.bus kind line (jM c.conf c.asked) data,asked:=wrap64 (c.asked+1)}
def pW(c:Co)(first:Bool):Bool:=if first=true then decide ((kE c.bus:Int)<c.conf.slots)else decide ((kE c.bus:Int)<c.conf.slots - 1)
def cJ(c:Co)(line:Nat):Co:=
 match gK c.data c.bus c.mem line (jM c.conf c.asked)with
 |(d,q,asked)=>{c with data:=d,bus:=q,asked:=if asked=true then wrap64 (c.asked+1)else c.asked}
def TV(c:Co):ByteArray:=VP c.stores c.data c.bus c.mem
def nV(c:Co)(e:Ent):ByteArray:=if oU ((TV c).size:Int) e.addr (dS e.i.op:Nat)=true then Ub (TV c) e.addr (dS e.i.op)else mH
def vD(c:Co)(line:Nat)(e:Ent):Ent:=if e.is=2∧lineOf e.addr=line then tP {e with filled:=true} (nV c e)else e
def BR(c:Co)(x:Req):Co:=
 if x.kind=1 then {c with rob:=c.rob.map (vD c x.line)}
 else if x.kind=2 then {c with words:=(qF c.words x.line mH false).1}
 else if x.kind=3 then cJ c x.line
 else if x.kind=4 then {c with mem:=qV c.mem [⟨x.line,x.data⟩]}
 else c
def jK(c:Co):Co:=
 match dZ c.bus with
 |(q,x,ok)=>if ok=true then BR {c with bus:=q} x else {c with bus:=q}
def storeAt(r:Nat→Nat)(rob:List Ent)(i:Nat):List Ent:=
 match rob[i]? with
 |some e=>if kindOf e.i.op=4 then (match kN rob r i e.i.rs2 with|some b=>rob.set i (tK e b)|none=>rob)else rob
 |none=>rob
def cK(r:Nat→Nat)(rob:List Ent):Nat→List Ent
 |0=>rob
 |k+1=>storeAt r (cK r rob k) k
def dC(c:Co):List Ent:=cK c.r (c.rob.map goE) c.rob.length
def iE(c:Co):Co:=
 if c.halt≠0 then c
 else match wO (dC c)with
  |some i=>{c with rob:=BP (dC c) i,fetch:=(match (dC c)[i]? with|some e=>e.next|none=>0),fetched:=[],stop:=false}
  |none=>{c with rob:=dC c}
def iS(c:Co)(s:Sp):Co:={c with retired:=c.retired++[s],halt:=s.halt,rob:=[],fetched:=[],stop:=true}
def BS(c:Co)(e:Ent)(s:Sp):Co:=if kindOf e.i.op=3 then cJ c s.addr else c
def bK(c:Co)(s:Sp):Co:={c with retired:=c.retired++[s],stores:=(match gE s with|some p=>c.stores++[p]|none=>c.stores)}
def wP(c:Co)(e:Ent)(s:Sp)(l:List Ent):Co:=
 {BS (bK c s) e s with r:=gD c.r s,guess:=dY c.guess s.pc s.next e.i,rob:=l}
def dV:Nat→Co→Co
 |0,c=>c
 | n+1,c=>
  if c.halt≠0 then c
  else match c.rob with
   |[]=>c
   |e::l=>
    if e.is≠3 then c
    else if (aP e).halt≠0 then iS c (aP e)
    else if (aP e).store=true∧(c.stores.length:Int)≥c.conf.stores then c
    else dV n (wP c e (aP e) l)
def dN(c:Co):Co:=dV c.conf.width.toNat c
def CD(c:Co)(i:Nat):Bool:=
 match c.rob[i]? with
 |none=>false
 |some e=>
  if e.is≠0 then false
  else if kindOf e.i.op=3 then e.known||((kN c.rob c.r i e.i.rs1).isSome&&MY c.conf.mode c.rob i)
  else if kindOf e.i.op=4 then !e.known&&(kN c.rob c.r i e.i.rs1).isSome&&MY c.conf.mode c.rob i
  else (lE c.rob c.r i).2.2&&MY c.conf.mode c.rob i
def IB(c:Co)(line:Nat):Bool:=(bE c.data line).2.isSome||c.rob.any λ e=>e.filled&&decide (lineOf e.addr=line)
def setE(c:Co)(i:Nat)(e:Ent):Co:={c with rob:=c.rob.set i e}
def lZ(c:Co)(i:Nat):Co:=
 match c.rob[i]? with
 |none=>c
 |some e=>
  if e.known=false then c
  else if (kO c.rob c.stores i).1=1 then setE c i (tP e (kO c.rob c.stores i).2)
  else if (kO c.rob c.stores i).1≠2 then c
  else if IB c (lineOf e.addr)=true then setE c i (tP e (nV c e))
  else if CW c.bus (lineOf e.addr) 1=true then setE c i {e with is:=2}
  else if pW c (tW c.rob i)=true∧CW c.bus (lineOf e.addr) 3=false then setE (iF c 1 (lineOf e.addr) mH) i {e with is:=2}
  else c
def gF(c:Co)(i:Nat):Co:=
 match c.rob[i]? with
 |none=>c
 |some e=>
  if kindOf e.i.op=4 then setE c i (vY e c.mem.size (lE c.rob c.r i).1)
  else if kindOf e.i.op=3 then lZ (setE c i (vY e c.mem.size (lE c.rob c.r i).1)) i
  else setE c i (qO e (lE c.rob c.r i).1 (lE c.rob c.r i).2.1)
def GM(e:Ent):Bool:=decide (kindOf e.i.op=2)&&decide (e.is=1)
def DV(c:Co):List Int:=c.rob.map λ e=>(kindOf e.i.op:Int)
def IC(c:Co):List Bool:=(List.range c.rob.length).map (CD c)
def fJ(c:Co):Co:=if c.halt≠0 then c else (pickOf c.conf.width (c.rob.any GM) (DV c) (IC c)).foldl gF c
def jL:Nat→Co→Co
 |0,c=>c
 | n+1,c=>
  if (c.rob.length:Int)≥c.conf.rob then c
  else match c.fetched with
   |[]=>c
   |f::l=>jL n {c with rob:=c.rob++[pN c.next f c.prog],next:=wrap64 (c.next+1),fetched:=l}
def iY(c:Co):Co:=if c.halt≠0 then c else jL c.conf.width.toNat c
def cN(c:Co)(w:Nat):Co×Nat:=
 if MX w=0∨kindOf (fS w).op≠5 then (c,up4 c.fetch)
 else if c.conf.tables=true then (c,vS c.guess c.fetch (fS w))
 else ({c with guessed:=wrap64 (c.guessed+1)},wS c.conf c.guessed c.fetch)
def Kb(c:Co)(n:Nat):Co:={c with fetched:=c.fetched++[⟨c.fetch,n⟩],fetch:=n}
def eB:Nat→Co→Co
 |0,c=>c
 | n+1,c=>
  if c.stop=true∨(c.fetched.length:Int)≥c.conf.queue then c
  else if (fetchP c.prog c.fetch).isSome=false then {c with fetched:=c.fetched++[⟨c.fetch,up4 c.fetch⟩],stop:=true}
  else if (bE c.words (lineOf c.fetch)).2.isSome=false then
   (if CW c.bus (lineOf c.fetch) 2=false∧pW c false=true then iF c 2 (lineOf c.fetch) mH else c)
  else
   eB n (Kb (cN {c with words:=sK c.words (lineOf c.fetch)} (fetchW c.prog c.fetch)).1 (cN {c with words:=sK c.words (lineOf c.fetch)} (fetchW c.prog c.fetch)).2)
def dW(c:Co):Co:=if c.halt≠0 then c else eB c.conf.width.toNat c
def aW(c:Co):Co:={c with stores:=(pV c.stores c.data).1,data:=(pV c.stores c.data).2.1}
def oG(c:Co):Co:=
 match c.stores with
 |[]=>c
 |p::_=>if CW c.bus (lineOf p.addr) 3=false∧pW c true=true then iF c 3 (lineOf p.addr) mH else c
def mQ(c:Co):Co:=
 match cP c.data with
 |some w=>if w.data.size≠0 then {iF c 4 w.line w.data with data:=uR c.data w.line}else c
 |none=>c
def kP(c:Co):Co:=if c.stores≠[]∨c.halt=0 then c else mQ c
def pZ(c:Co):Co:=
 match c.stores with
 |[]=>kP (aW c)
 |_::_=>if (pV c.stores c.data).2.2=true then kP (aW c)else kP (oG (aW c))
def zK(c:Ca)(f:Cf):Bool:=fY c&&decide ((c.sets.length:Int)=f.sets)&&decide (c.ways=f.ways)
def fK(c:Co):Bool:=
 uQ c.conf&&decide (c.prog.length≤64)&&(c.mem.toList==(qQ c.mem).toList)&&DS c.rob&&decide ((c.rob.length:Int)≤c.conf.rob)&&(c.rob.all λ e=>decide (e.no<c.next))&&zK c.data c.conf&&zK c.words c.conf&&rH c.guess&&decide ((c.fetched.length:Int)≤c.conf.queue)&&decide ((c.stores.length:Int)≤c.conf.stores)&&c.stores.all λ p=>oU c.mem.size p.addr p.data.size
def TW(c:Co):Co:=pZ (dW (iY (fJ (dN (iE (jK {c with cycle:=wrap64 (c.cycle+1)}))))))
def dP(c:Co):Co:=if fK c=true then TW c else c
def dJ(c:Co):Nat→Co
 |0=>c
 |n+1=>dP (dJ c n)
noncomputable def C1:Ctx:={C0 with lt:=true}
theorem c1Ok:CtxOk C1:=⟨c0Ok.1,c0Ok.2,c0Ok.3⟩
theorem dc1{f:FuncId}{args:List AV}{r:AV}(h:bY C1 f args r):bY C0 f args r:=h
theorem w64(x:Int):IntKind.wrap .i64 x=wrap64 x:=by rw[IntKind.wrap_i64];simp only[wrap64]
theorem cOr(c y:Bool):cA c true y=(c||y):=by cases c<;>rfl
theorem pM(c x:Bool):cA c x false=(c&&x):=by cases c<;>rfl
theorem sP{p q:Prop}(h:p)(t:p→q:=by intro h;(try simp only[w64,cOr,pM,dG,aK,dT,jV,pD,pG,ne_eq,aX,gT,bC,lL,eI,Bool.not_eq_false,Bool.not_eq_eq_eq_not,lO,Bool.not_false,Decidable.not_not]at h);exact h):q:=t h
abbrev zCo:List AV:=[vI 0,vI 0,vI 0,vI 0,vI 0,vI 0,vI 0,vI 0,.sl 0 ([]) true,vB false,.sl 0 ([]) true,.sl 0 ([]) true,vI 0,zU,zU,zU,zU,zU,zU,zU,zU,zU,zU,zU,zU,zU,zU,zU,zU,zU,zU,zU,zU,zU,zU,zU,zU,zU,zU,zU,zU,zU,zU,zU,zU,zU,vB false,.sl 0 ([]) true,.sl 0 ([]) true,vI 0,.sl 0 ([]) true,vI 0,.sl 0 ([]) true,vI 0,.sl 0 ([]) true,.sl 0 ([]) true,vI 0,vI 0,.v (.string (⟨#[]⟩:ByteArray)),.sl 0 ([]) true,zU,.sl 0 ([]) true,vI 0,.sl 0 ([]) true]
theorem kX{α:Type}[BEq α][LawfulBEq α]{a b:α}(h:(a==b)=true):a=b:=eq_of_beq h
theorem kY{α:Type}[BEq α][LawfulBEq α]{a b:α}(h:(a==b)=false): ¬ a=b:=λ e=>by rw[e,qJ]at h;cases h
theorem vA{α:Type}[BEq α][LawfulBEq α]{a b:α}(h:(a != b)=true): ¬ a=b:=λ e=>by rw[e]at h;simp at h
theorem vC{α:Type}[BEq α][LawfulBEq α]{a b:α}(h:(a != b)=false):a=b:=by simpa using h
theorem sJ{α:Type}(f:α→List AV)(l:List α){n:Nat}(h:l.length=n):Res.ok (.v (.int .i64 ((l.map f).length:Int)))=.ok (.v (.int .i64 (n:Int))):=by rw[aO,h]
theorem Hk{α:Type}{l:List α}{k:Nat}{x:α}(h:l[k]?=some x):l[0+k]?=some x:=by rwa [bU]
theorem OT{p:Prop}{x:AV}{h:AH}{b rs:Nat}{r r':List (List AV)}(e:r=r'):Res.fx p x (upd h b (some (.arr r rs)))=.fx p x (upd h b (some (.arr r' rs))):=by rw[e]
theorem uO{α:Type}{f:α→List AV}{l:List α}{k:Nat}{x:α}{h:AH}{b rs:Nat}:some (upd h b (some (.arr ((l.map f).set (0+k) (f x)) rs)))=some (upd h b (some (.arr ((l.set k x).map f) rs))):=by rw[bU,List.map_set]
theorem vX{p:Prop}{rs:Nat}{r r':List (List AV)}{c:Bool}(e:r=r'):Res.need p (.sl rs r c)=.need p (.sl rs r' c):=by rw[e]
theorem JY{p:Prop}{s lo lo' n n':Nat}{c:Bool}(e:lo=lo')(e':n=n'):Res.need p (.osl s lo n c)=.need p (.osl s lo' n' c):=by rw[e,e']
section
variable {α:Type}(f:α→List AV)
section
variable (l:List α)
theorem tT(H:Nat):List.drop 0 (List.take H (l.map f))=(l.take H).map f:=by rw[cQ,fO]
theorem Iy(L:Nat):List.drop L (List.take (l.map f).length (l.map f))=(l.drop L).map f:=by rw[dI,lQ]
theorem DR{p:Prop}{H:AH}{s rs m:Nat}{c:List (List AV)}(hl:c.length=m):Res.fx p (.osl s 0 c.length false) (upd H s (some (.arr c rs)))=.fx p (.osl s 0 m false) (upd H s (some (.arr c rs))):=by rw[hl]
theorem gU{p:Prop}{H:AH}{s rs n m:Nat}(B:List α)(h1:l.length=n)(h2:l.length+B.length=m):
  Res.fx p (.osl s 0 ((List.take n (List.drop 0 (l.map f))).length+(B.map f).length) false) (upd H s (some (.arr (List.take n (List.drop 0 (l.map f))++B.map f) rs)))=.fx p (.osl s 0 m false) (upd H s (some (.arr ((l++B).map f) rs))):=by
 rw[cQ,aN (by rw[aO,h1];exact aC _),aO,aO,h2,fX]
theorem zH{p:Prop}{H:AH}{s rs m:Nat}(B:List α)(h2:l.length+B.length=m):
  Res.fx p (.osl s 0 ((l.map f).length+(B.map f).length) false) (upd H s (some (.arr (l.map f++B.map f) rs)))=.fx p (.osl s 0 m false) (upd H s (some (.arr ((l++B).map f) rs))):=by
 rw[aO,aO,h2,fX]
theorem Rp{p:Prop}{H:AH}{s rs lo n m:Nat}(B:List α)(h2:((l.drop lo).take n).length+B.length=m):
  Res.fx p (.osl s 0 ((List.take n (List.drop lo (l.map f))).length+(B.map f).length) false) (upd H s (some (.arr (List.take n (List.drop lo (l.map f))++B.map f) rs)))=.fx p (.osl s 0 m false) (upd H s (some (.arr ((((l.drop lo).take n)++B).map f) rs))):=by
 rw[←h2,fX,fO,lQ,aO];simp only[aQ,bA,aO]
end
theorem CU{n:Nat}(X:List (List AV))(B:List α)(hB:B.length=n)(hX:X.length=n):X.take 0++(B.map f).take (min (B.map f).length n)++X.drop (0+min (B.map f).length n)=B.map f:=by
 rw[aO,hB,Nat.min_self,pF,iN,eF (by omega),eQ,aN (by rw[aO];omega)]
section
variable (l:List α)
theorem Bl{lo n:Nat}{M:List α}(h:(l.drop lo).take n=M):List.take n (List.drop lo (l.map f))=M.map f:=by rw[←h,fO,lQ]
theorem kA{n:Nat}(h:l.length≤n):List.take n (List.drop 0 (l.map f))=l.map f:=by rw[cQ,aN (by rw[aO];exact h)]
end
end
theorem CV{α:Type}{f:α→List AV}{l:List α}{b rs lo n:Nat}{c:Bool}(h:lo+n≤l.length):LeZ (some (b,rs,l.map f)) (.osl b lo n c) (.sl rs (((l.drop lo).take n).map f) false):=by
 have:=LeZ.frz (fz:=some (b,rs,l.map f)) b rs lo n (l.map f) c false rfl (by rw[aO];exact h) (λ h=>by cases h);rw[fO,lQ];exact this
theorem lD{α:Type}{f:α→List AV}{l:List α}{b rs n:Nat}{c:Bool}(h:l.length=n):LeZ (some (b,rs,l.map f)) (.osl b 0 n c) (.sl rs (l.map f) false):=by
 have:=CV (f:=f) (b:=b) (rs:=rs) (c:=c) (l:=l) (lo:=0) (n:=n) (by omega)
 rwa [cQ,aN (by omega)]at this
theorem rfT{p:Prop}(h:p:=by repeat (first|exact trivial|refine⟨.refl _,?_⟩|refine⟨CV (by exact omT),?_⟩|refine⟨lD (by exact omT),?_⟩)):p:=h
theorem sW{α:Type}{P:α→Prop}{l:List α}{n:Nat}(h:∀ x∈l,P x):∀ x∈l.take n,P x:=λ x hx=>h x (cO hx)
theorem GJ{α:Type}{P:α→Prop}{l:List α}{n:Nat}(h:∀ x∈l,P x):∀ x∈l.drop n,P x:=λ x hx=>h x (eP hx)
theorem nQ{α:Type}{P:α→Prop}{l m:List α}(h:∀ x∈l,P x)(h':∀ x∈m,P x):∀ x∈l++m,P x:=λ x hx=>(al_List_mem_append.1 hx).elim (h x) (h' x)
theorem nU{α:Type}{P:α→Prop}{y:α}(h:P y):∀ x∈[y],P x:=λ x hx=>by rw[tM]at hx;rw[hx];exact h
theorem xN{α:Type}{P:α→Prop}{l:List α}{k:Nat}{y:α}(h:∀ x∈l,P x)(h':P y):∀ x∈l.set k y,P x:=λ x hx=>(List.mem_or_eq_of_mem_set hx).elim (h x) λ e=>e ▸ h'
theorem pJ.frame0{P:Program}{G:Nat→Option (List AV)}{f:FuncId}{args:List AV}{rows:List (List AV)}{rs lo n:Nat}{cl:Bool}(H:pJ P G f args (heapF []) 0 (λ x h'=>x=.osl 0 lo n cl∧h'=heapF [(0,.arr rows rs)]))(K:AH)(s2:Nat)(ha:fR args=true):
  pJ P G f args K s2 (λ x h'=>x=.osl s2 lo n cl∧h'=upd K s2 (some (.arr rows rs))):=by
 have:=H.frame (λ x=>x) K s2 rfl (λ x hx=>absurd rfl hx) (λ x blk hx=>by cases hx) (λ x y hx=>absurd hx (dX _)) (mY 0 args ha) (λ x h'=>x=.osl s2 lo n cl∧h'=upd K s2 (some (.arr rows rs))) λ r h' hP=>?_
 ·rwa [qE _ args ha]at this
 ·obtain⟨rfl,rfl⟩:=hP;refine⟨_,⟨by simp[uK,uT],rfl⟩,λ y blk hy=>?_⟩;by_cases he:y=s2
  ·subst he;rw[dA]at hy;injection hy with hy;exact .inl ⟨0,.arr rows rs,rfl,(uT _ _ _).symm,by subst hy;rfl⟩
  ·rw[cE _ _ he]at hy;exact .inr ⟨hy,λ x hx=>absurd hx (dX _)⟩
theorem pJ.frameO{P:Program}{G:Nat→Option (List AV)}{f:FuncId}{args:List AV}{rows rows2:List (List AV)}{rs rs2 n:Nat}(H:pJ P G f args (heapF [(0,.arr rows rs)]) 1 (λ x h'=>x=.osl 1 0 n false∧h'=heapF [(0,.arr rows rs),(1,.arr rows2 rs2)]))(b:Nat)(K:AH)(s2:Nat)(hb:Nat.blt b s2=true)(hK:K b=some (.arr rows rs))(ha:pK 1 args=true):
  pJ P G f (Bz (λ _=>b) args) K s2 (λ x h'=>x=.osl s2 0 n false∧h'=upd K s2 (some (.arr rows2 rs2))):=by
 have hb:=aR hb;refine H.frame (λ _=>b) K s2 rfl (λ x hx=>?_) (λ x blk0 hx=>?_) (λ x y hx hy _=>by omega) ha _ λ r' h' hP=>?_
 ·cases x with
  |zero=>omega
  |succ x=>exact absurd rfl hx
 ·cases x with
  |zero=>injection hx with hx;subst hx;exact⟨hb,rfl,hK⟩
  |succ x=>cases hx
 ·obtain⟨rfl,rfl⟩:=hP;refine⟨_,⟨by simp[uK,uT],rfl⟩,λ y blk0 hy=>?_⟩;by_cases he:y=s2
  ·subst he;rw[dA]at hy;injection hy with hy;exact .inl ⟨1,.arr rows2 rs2,rfl,(uT _ _ _).symm,by subst hy;rfl⟩
  ·rw[cE _ _ he]at hy;by_cases hyb:y=b
   ·subst hyb;rw[hK]at hy;injection hy with hy;exact .inl ⟨0,.arr rows rs,rfl,rfl,by subst hy;rfl⟩
   ·exact .inr ⟨hy,λ x hx e=>hyb e.symm⟩
abbrev yM(b:Bool):List AV:=[.v (.bool b)]
structure Ent.ok(e:Ent):Prop where
 pc:e.pc≤4294967295
 imm:e.i.imm≤4294967295
 guess:e.guess≤4294967295
 value:e.value≤4294967295
 next:e.next≤4294967295
 addr:e.addr≤4294967295
structure Req.ok(x:Req):Prop where
 line:x.line≤4294967295
structure Pt.ok(x:Pt):Prop where
 addr:x.addr≤4294967295
structure Ft.ok(x:Ft):Prop where
 pc:x.pc≤4294967295
 guess:x.guess≤4294967295
structure Gs.ok(x:Gs):Prop where
 pc:x.pc≤4294967295
 next:x.next≤4294967295
structure Sp.ok(x:Sp):Prop where
 pc:x.pc≤4294967295
 next:x.next≤4294967295
 value:x.value≤4294967295
 addr:x.addr≤4294967295
theorem Bm{a b B:Nat}(h:b≤a)(h2:a≤B)(hB:Nat.ble B 9223372036854775807=true):IntKind.wrap .i64 ((a:Int) - (b:Int))=((a - b:Nat):Int):=by
 have:=aR hB;rw[wrap_i64 (by omega) (by omega)];omega
theorem VH(a b:Nat):Int.tmod (a:Int) (b:Int)=((a % b:Nat):Int):=pI a b |>.symm
theorem BA{a:Nat}(h:a≤4294967295):a<4294967296:=jY h
theorem oF{e e':Ent}(h:e=e'):AV.agg (enL e)=.agg (enL e'):=by rw[h]
theorem CA{e e':Sp}(h:e=e'):AV.agg (spL e)=.agg (spL e'):=by rw[h]
theorem cY{b b':Bool}(h:b=b'):AV.v (.bool b)=.v (.bool b'):=by rw[h]
theorem Ln{b b':Int}(h:b=b'):AV.v (.int .i64 b)=.v (.int .i64 b'):=by rw[h]
theorem Fs{b b':Nat}(h:b=b'):AV.v (.int .u32 (b:Int))=.v (.int .u32 (b':Int)):=by rw[h]
abbrev Iz(r:Nat→Nat):List AV:=[.v (.int .u32 (r 0:Int)),.v (.int .u32 (r 1:Int)),.v (.int .u32 (r 2:Int)),.v (.int .u32 (r 3:Int)),.v (.int .u32 (r 4:Int)),.v (.int .u32 (r 5:Int)),.v (.int .u32 (r 6:Int)),.v (.int .u32 (r 7:Int)),.v (.int .u32 (r 8:Int)),.v (.int .u32 (r 9:Int)),.v (.int .u32 (r 10:Int)),.v (.int .u32 (r 11:Int)),.v (.int .u32 (r 12:Int)),.v (.int .u32 (r 13:Int)),.v (.int .u32 (r 14:Int)),.v (.int .u32 (r 15:Int)),.v (.int .u32 (r 16:Int)),.v (.int .u32 (r 17:Int)),.v (.int .u32 (r 18:Int)),.v (.int .u32 (r 19:Int)),.v (.int .u32 (r 20:Int)),.v (.int .u32 (r 21:Int)),.v (.int .u32 (r 22:Int)),.v (.int .u32 (r 23:Int)),.v (.int .u32 (r 24:Int)),.v (.int .u32 (r 25:Int)),.v (.int .u32 (r 26:Int)),.v (.int .u32 (r 27:Int)),.v (.int .u32 (r 28:Int)),.v (.int .u32 (r 29:Int)),.v (.int .u32 (r 30:Int)),.v (.int .u32 (r 31:Int))]
theorem ldL(r:Nat→Nat)(n:Nat)(hn:n<32):okO (KL (Iz r) (0+n * 1))=.ok (.v (.int .u32 (r n:Int))):=by
 have:∀ (n:_root_.Fin 32),okO (KL (Iz r) (0+n.1 * 1))=.ok (.v (.int .u32 (r n.1:Int))):=by
  intro n
  match n with
  |⟨0,_⟩=>rfl
  |⟨1,_⟩=>rfl
  |⟨2,_⟩=>rfl
  |⟨3,_⟩=>rfl
  |⟨4,_⟩=>rfl
  |⟨5,_⟩=>rfl
  |⟨6,_⟩=>rfl
  |⟨7,_⟩=>rfl
  |⟨8,_⟩=>rfl
  |⟨9,_⟩=>rfl
  |⟨10,_⟩=>rfl
  |⟨11,_⟩=>rfl
  |⟨12,_⟩=>rfl
  |⟨13,_⟩=>rfl
  |⟨14,_⟩=>rfl
  |⟨15,_⟩=>rfl
  |⟨16,_⟩=>rfl
  |⟨17,_⟩=>rfl
  |⟨18,_⟩=>rfl
  |⟨19,_⟩=>rfl
  |⟨20,_⟩=>rfl
  |⟨21,_⟩=>rfl
  |⟨22,_⟩=>rfl
  |⟨23,_⟩=>rfl
  |⟨24,_⟩=>rfl
  |⟨25,_⟩=>rfl
  |⟨26,_⟩=>rfl
  |⟨27,_⟩=>rfl
  |⟨28,_⟩=>rfl
  |⟨29,_⟩=>rfl
  |⟨30,_⟩=>rfl
  |⟨31,_⟩=>rfl
  |⟨k+32,h⟩=>exact absurd h (by omega)
 exact this ⟨n,hn⟩
theorem Xe(r:Nat→Nat)(n v:Nat)(hn:n<32):yT (0+n * 1) [.v (.int .u32 (v:Int))] (Iz r)=Iz (Ua r n v):=by
 have:∀ (n:_root_.Fin 32),yT (0+n.1 * 1) [.v (.int .u32 (v:Int))] (Iz r)=Iz (Ua r n.1 v):=by
  intro n
  match n with
  |⟨0,_⟩=>rfl
  |⟨1,_⟩=>rfl
  |⟨2,_⟩=>rfl
  |⟨3,_⟩=>rfl
  |⟨4,_⟩=>rfl
  |⟨5,_⟩=>rfl
  |⟨6,_⟩=>rfl
  |⟨7,_⟩=>rfl
  |⟨8,_⟩=>rfl
  |⟨9,_⟩=>rfl
  |⟨10,_⟩=>rfl
  |⟨11,_⟩=>rfl
  |⟨12,_⟩=>rfl
  |⟨13,_⟩=>rfl
  |⟨14,_⟩=>rfl
  |⟨15,_⟩=>rfl
  |⟨16,_⟩=>rfl
  |⟨17,_⟩=>rfl
  |⟨18,_⟩=>rfl
  |⟨19,_⟩=>rfl
  |⟨20,_⟩=>rfl
  |⟨21,_⟩=>rfl
  |⟨22,_⟩=>rfl
  |⟨23,_⟩=>rfl
  |⟨24,_⟩=>rfl
  |⟨25,_⟩=>rfl
  |⟨26,_⟩=>rfl
  |⟨27,_⟩=>rfl
  |⟨28,_⟩=>rfl
  |⟨29,_⟩=>rfl
  |⟨30,_⟩=>rfl
  |⟨31,_⟩=>rfl
  |⟨k+32,h⟩=>exact absurd h (by omega)
 exact this ⟨n,hn⟩
theorem XI{ev:Operand→AV}{h:AH}{s b n v:Nat}{a x:Operand}{r:Nat→Nat}(ha:ev a=.ptr b (0+n * 1))(hb:h b=some (.box (Iz r)))(hx:ev x=.v (.int .u32 (v:Int)))(hn:n<32):
  opA C0 ev h s (.store 26 a x)=.fx True .any (upd h b (some (.box (Iz (Ua r n v))))):=by
 have hty:C0.ty 26=some Xx:=rfl;have hc:(0+n * 1+([.v (.int .u32 (v:Int))]:List AV).length).ble (Iz r).length=true:=jS (by simp;omega);simp only[opA,hty,hx,kD,ha,hb];rw[show ([AV.v (Value.int IntKind.u32 (v:Int))].length.beq 1)=true from rfl];simp only;rw[hc];simp only;rw[Xe _ _ _ hn]
end Go.Proofs.YtlhofpglndhfaaaGreatDoor
