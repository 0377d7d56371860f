/- Lemmas. -/
import Derived.Test.YtlpkggpdjobpmaaGreatDoorProg
import Derived.Maps.OwnSet
import Derived.Maps.OwnOps
import Derived.Deep.LoopGhost
import Derived.Test.YtlpkggpdjobpmaaGreatDoorS1
import Derived.Test.YtlpkggpdjobpmaaGreatDoorS2
set_option linter.all false
namespace Go.Proofs.YtlpkggpdjobpmaaGreatDoor
open Go.Proofs.Tryz
open Go.RowKit Go.Maps
def Cx(kinds:List Int)(i:Nat):Int:=kinds.getD i 0
def rM(k:Int):Nat:=if k=2 then 1 else if k=3∨k=4 then 2 else 0
structure PSt where
 out:List Nat
 t1:Bool
 t2:Bool
def RF(kinds:List Int)(s:PSt)(i:Nat):Bool:=(rM (Cx kinds i)==1&&s.t1)||(rM (Cx kinds i)==2&&s.t2)
def IW(agN:Int)(kinds:List Int)(s:PSt)(i:Nat)(ready:Bool):PSt:=
 if agN<=s.out.length then s else if ready=false then s else if RF kinds s i=true then s
 else⟨s.out++[i],s.t1||rM (Cx kinds i)==1,s.t2||rM (Cx kinds i)==2⟩
def kA(agN:Int)(busy:Bool)(kinds:List Int)(can:List Bool):Nat->PSt
 |0=>⟨[],busy,false⟩
 |k+1=>IW agN kinds (kA agN busy kinds can k) k (can.getD k false)
def pickOf(agN:Int)(busy:Bool)(kinds:List Int)(can:List Bool):List Nat:=(kA agN busy kinds can can.length).out
theorem KG{agN:Int}{busy:Bool}{kinds:List Int}{can:List Bool}{k:Nat}(h:agN<=(kA agN busy kinds can k).out.length):∀j,(kA agN busy kinds can (k+j))=kA agN busy kinds can k
 |0=>rfl
 |j+1=>by
  show IW _ _ (kA agN busy kinds can (k+j)) _ _=_;rw[KG h j];simp[IW,h]
theorem Fv{agN:Int}{busy:Bool}{kinds:List Int}{can:List Bool}:∀k,(kA agN busy kinds can k).out.length<=k
 |0=>by simp[kA]
 | k+1=>by
  have:=Fv (agN:=agN) (busy:=busy) (kinds:=kinds) (can:=can) k;unfold kA IW;split
  ·omega
  ·split
   ·omega
   ·split
    ·omega
    ·simp;omega
def vH:Keyed Tryz.prog 3:=int_keyed underlying3
def IX(w):(zeroValue 3).run Tryz.prog w=.ok (.int .i64 0) w:=by kernel_rfl
def IY:EInfo Tryz.prog 22 3 (.int .i64 0) 1 8:=⟨underlying22,by kernel_rfl,rfl,oT,oT⟩
def TMap(w:World)(b n:Nat)(t1 t2:Bool):Prop:=
 ∃(D:DataW Unit) (c0:Int),w.ownsMap Tryz.prog 3 (plainElem Tryz.prog 3) b n D∧D.atKey (.int .i64 1) (.lit (.int .i64 0))=.lit (.int .i64 (if t1 then 1 else 0))∧D.atKey (.int .i64 2) (.lit (.int .i64 0))=.lit (.int .i64 (if t2 then 1 else 0))∧
  D.atKey (.int .i64 0) (.lit (.int .i64 0))=.lit (.int .i64 c0)∧0<=c0∧c0<=n
theorem TMap.made(w:World):TMap (w.alloc (.map #[] 0)) w.heap.size 0 false false:=⟨_,0,World.ownsMap_made _ _ _ _,by simp[DataW.atKey],by simp[DataW.atKey],by simp[DataW.atKey],oT,oT⟩
def Dg(u:Int)(hu:(Lit.int .i64 u).wf=true):keyOf Tryz.prog 3 (.int .i64 u)=some (.int .i64 u):=keyOf_int_mk underlying3 hu
theorem TMap.look{w}{b n}{t1 t2}(h:TMap w b n t1 t2):
  (Instr.lookup 177 (.map (some b)) (.int .i64 1) false).run Tryz.prog w=.ok (.int .i64 (if t1 then 1 else 0)) w∧
  (Instr.lookup 177 (.map (some b)) (.int .i64 2) false).run Tryz.prog w=.ok (.int .i64 (if t2 then 1 else 0)) w:=by
 obtain⟨D,c0,hown,h1,h2,h0, -, -⟩:=h;obtain⟨c1,hr1,ha1, -⟩:=hown.lookup_int vH underlying177 underlying3 (IX _) (Dg 1 dT);obtain⟨c2,hr2,ha2, -⟩:=hown.lookup_int vH underlying177 underlying3 (IX _) (Dg 2 dT);rw[ha1]at h1;rw[ha2]at h2;injection h1 with h1;injection h1 with _ h1;injection h2 with h2;injection h2 with _ h2;subst h1 h2;exact⟨hr1,hr2⟩
theorem TMap.put1{w}{b n}{t1 t2}(h:TMap w b n t1 t2)(hn:n<=1000000):
  ∃w',(Instr.mapUpdate 177 (.map (some b)) (.int .i64 1) (.int .i64 1)).run Tryz.prog w=.ok () w'∧TMap w' b (n+1) true t2∧w.grownBy w' (some b):=by
 obtain⟨D,c0,hown,h1,h2,h0,k1,k2⟩:=h;have hm:IsMap D:=hown.isMap;obtain⟨w',hr,ho,hg⟩:=hown.update vH underlying177 (by unfold maxLen;omega) (Dg 1 dT) (plainElem_int underlying3 (dT:(Lit.int .i64 1).wf=true));exact⟨w',hr,⟨_,c0,ho,(atKey_put_same hm (by simp[WideAt.IsKeyLit]) _ _).trans (by simp),(atKey_put_other (by simp) _ _).trans h2,(atKey_put_other (by simp) _ _).trans h0,k1,oT⟩,hg⟩
theorem TMap.put2{w}{b n}{t1 t2}(h:TMap w b n t1 t2)(hn:n<=1000000):
  ∃w',(Instr.mapUpdate 177 (.map (some b)) (.int .i64 2) (.int .i64 1)).run Tryz.prog w=.ok () w'∧TMap w' b (n+1) t1 true∧w.grownBy w' (some b):=by
 obtain⟨D,c0,hown,h1,h2,h0,k1,k2⟩:=h;have hm:IsMap D:=hown.isMap;obtain⟨w',hr,ho,hg⟩:=hown.update vH underlying177 (by unfold maxLen;omega) (Dg 2 dT) (plainElem_int underlying3 (dT:(Lit.int .i64 1).wf=true));exact⟨w',hr,⟨_,c0,ho,(atKey_put_other (by simp) _ _).trans h1,(atKey_put_same hm (by simp[WideAt.IsKeyLit]) _ _).trans (by simp),(atKey_put_other (by simp) _ _).trans h0,k1,oT⟩,hg⟩
theorem TMap.put0{w}{b n}{t1 t2}(h:TMap w b n t1 t2)(hn:n<=1000000):
  ∃(c:Int) (w':World),0<=c∧c<=1000000∧(Instr.lookup 177 (.map (some b)) (.int .i64 0) false).run Tryz.prog w=.ok (.int .i64 c) w∧(Instr.mapUpdate 177 (.map (some b)) (.int .i64 0) (.int .i64 (c+1))).run Tryz.prog w=.ok () w'∧TMap w' b (n+1) t1 t2∧w.grownBy w' (some b):=by
 obtain⟨D,c0,hown,h1,h2,h0,k1,k2⟩:=h;have hm:IsMap D:=hown.isMap;obtain⟨c,hr0,ha0,hwf⟩:=hown.lookup_int vH underlying177 underlying3 (IX _) (Dg 0 dT);rw[ha0]at h0;injection h0 with h0;injection h0 with _ h0;subst h0;have hwf1:(Lit.int .i64 (c+1)).wf=true:=by
  simp only[Lit.wf,IntKind.min,IntKind.max,IntKind.signed,IntKind.bits,aP,aY];simp;omega
 obtain⟨w',hr,ho,hg⟩:=hown.update vH underlying177 (by unfold maxLen;omega) (Dg 0 dT) (plainElem_int underlying3 hwf1);exact⟨c,w',k1,oT,hr0,hr,⟨_,c+1,ho,(atKey_put_other (by simp) _ _).trans h1,(atKey_put_other (by simp) _ _).trans h2,(atKey_put_same hm (by simp[WideAt.IsKeyLit]) _ _),oT,oT⟩,hg⟩
theorem TMap.kept{w w'}{b n}{t1 t2}(h:TMap w b n t1 t2)(hb:Below w.heap.size w w'):TMap w' b n t1 t2:=by
 obtain⟨D,c0,hown,h1⟩:=h;exact⟨D,c0,hown.kept (row:=none) ⟨hb.os,hb.tape,hb.output,hb.size,λk hk _=>hb.block k hk⟩ (by simp),h1⟩
theorem TMap.grown{w w'}{b n}{t1 t2}{row}(h:TMap w b n t1 t2)(hb:w.grownBy w' row)(hne:some b≠row):TMap w' b n t1 t2:=by
 obtain⟨D,c0,hown,h1⟩:=h;exact⟨D,c0,hown.kept hb hne,h1⟩
theorem TMap.ne{w}{b n}{t1 t2}(h:TMap w b n t1 t2){base}{e}{size m}{v}{xs}(ho:w.ownsRow base e size v m xs):v.ownBlock=none∨v.ownBlock≠some b:=by
 obtain⟨D,c0,⟨es,clock,hb, -⟩, -⟩:=h;rcases ho.2 with ⟨rfl, -⟩|⟨g,cap,cur,rfl, -,hh, -⟩
 ·exact .inl rfl
 refine .inr λhe=>?_;have:g=b:=by simpa [Value.ownBlock]using he
 subst this;rw[hb]at hh;cases hh
theorem Sl.one{α}(f:α->Value){B0}{e}{w wr}{A}{n c}{l:List α}(h:Sl B0 e 1 w (.slice A n c) n (l.flatMap λa=>[f a]))(hb:Below w.heap.size w wr){k}(hn:n=l.length)(hk:k<n):
  ∃b off x,A=some ⟨b,off,none⟩∧l[k]?=some x∧b<w.heap.size∧wr.cell? ⟨b,off+k,none⟩=some (f x):=by
 obtain⟨A',c',hv,h1,h2,h3,h4⟩:=h;injection hv with hA hn' hc;subst hA hc hn;obtain⟨b,off,rfl, -,hc⟩:=h4 oT;have hx:l[k]?=some l[k]:=aA hk;have hf:(l.flatMap λa=>[f a])[k]?=some (f l[k]):=by
  have hfm:∀l:List α,(l.flatMap λa=>[f a])=l.map f:=by
   intro l
   induction l with
   |nil=>rfl
   |cons a l ih=>simp only[gW,jC,ih];rfl
  rw[hfm,aX,hx];rfl
 have:=hc k _ hf;exact⟨b,off,_,rfl,hx,tH this,(hb.cell (tH this)).trans this⟩
def Cy(k)(u)(hu:rM k=u)(w):Calls Tryz.prog 121 #[.int .i64 k] w λe w'=>e=.returned (.int .i64 u)∧w=w':=by
 subst hu;have h:k=2∨k=3∨k=4∨(¬k=2∧ ¬k=3∧ ¬k=4):=oT;rcases h with rfl|rfl|rfl|⟨h2,h3,h4⟩
 ·go_enter func121,ntmps121;go_wp2;go_ret;exact⟨rfl,rfl⟩
 ·go_enter func121,ntmps121;go_wp2;go_ret;exact⟨rfl,rfl⟩
 ·go_enter func121,ntmps121;go_wp2;go_ret;exact⟨rfl,rfl⟩
 have hv:Hid (rM k=0):=by show _=_;simp[rM,h2,h3,h4]
 go_enter func121,ntmps121;go_wp2;go_ret;exact⟨by rw[hv.out];rfl,rfl⟩
end Go.Proofs.YtlpkggpdjobpmaaGreatDoor
