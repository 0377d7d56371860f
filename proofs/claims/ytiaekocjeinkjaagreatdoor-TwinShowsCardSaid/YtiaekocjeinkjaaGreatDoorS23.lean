import Derived.Test.YtiaekocjeinkjaaGreatDoorProg
import Derived.Maps.OwnSet
import Derived.Maps.OwnOps
import Derived.Deep.LoopGhost
import Derived.Test.YtiaekocjeinkjaaGreatDoorS2
set_option linter.all false
namespace Go.Proofs.YtiaekocjeinkjaaGreatDoor
open Go.Proofs.Tryz
open Go.RowKit Go.Maps
def Cx(kinds:List Int)(i:Nat):Int:=kinds.getD i 0
def rM(k:Int):Nat:=if k=2 then 1 else if k=3\/k=4 then 2 else 0
structure ny where
 out:List Nat
 t1:Bool
 t2:Bool
def RF(kinds:List Int)(s:ny)(i:Nat):Bool:=(rM (Cx kinds i)==1&&s.t1)||(rM (Cx kinds i)==2&&s.t2)
def IW(agN:Int)(kinds:List Int)(s:ny)(i:Nat)(a:Bool):ny:=
 if agN<=s.out.length then s else if a=false then s else if RF kinds s i=true then s
 else⟨s.out++[i],s.t1||rM (Cx kinds i)==1,s.t2||rM (Cx kinds i)==2⟩
def kA(agN:Int)(busy:Bool)(kinds:List Int)(can:List Bool):Nat->ny
 |0=>⟨[],busy,false⟩
 |k+1=>IW agN kinds (kA agN busy kinds can k) k (can.getD k false)
def kj(agN:Int)(busy:Bool)(kinds:List Int)(can:List Bool):List Nat:=(kA agN busy kinds can can.length).out
theorem KG{agN:Int}{busy:Bool}{kinds:List Int}{can:List Bool}{k:Nat}(h:agN<=(kA agN busy kinds can k).out.length):∀j,(kA agN busy kinds can (k+j))=kA agN busy kinds can k
 |0=>rfl
 |j+1=>by
  show IW _ _ (kA agN busy kinds can (k+j)) _ _=_;rw[KG h j];simp[IW,h]
theorem Fv{agN:Int}{busy:Bool}{kinds:List Int}{can:List Bool}:∀k,(kA agN busy kinds can k).out.length<=k
 |0=>by simp[kA]
 | k+1=>by
  have:=Fv (agN:=agN) (busy:=busy) (kinds:=kinds) (can:=can) k;unfold kA IW;split
  .omega
  .split
   .omega
   .split
    .omega
    .simp;omega
def vH:Keyed Tryz.prog 3:=int_keyed underlying3
def IX(w:World):(zeroValue 3).run Tryz.prog w=.ok (.int .i64 0) w:=by kernel_rfl
def IY:nu Tryz.prog 22 3 (.int .i64 0) 1 8:=⟨underlying22,by kernel_rfl,R,oT,oT⟩
def fu(w:World)(b n:Nat)(t1 t2:Bool):Prop:=
 ∃(D:DataW Unit) (a:Int),w.ownsMap Tryz.prog 3 (plainElem Tryz.prog 3) b n D/\D.atKey (.int .i64 1) (.lit (.int .i64 0))=.lit (.int .i64 (if t1 then 1 else 0))/\D.atKey (.int .i64 2) (.lit (.int .i64 0))=.lit (.int .i64 (if t2 then 1 else 0))/\
  D.atKey (.int .i64 0) (.lit (.int .i64 0))=.lit (.int .i64 a)/\0<=a/\a<=n
theorem fu.made(w:World):fu (w.alloc (.map #[] 0)) w.heap.size 0 false false:=⟨_,0,World.ownsMap_made _ _ _ _,by simp[DataW.atKey],by simp[DataW.atKey],by simp[DataW.atKey],oT,oT⟩
def Dg(u:Int)(a:(Lit.int .i64 u).wf=true):keyOf Tryz.prog 3 (.int .i64 u)=some (.int .i64 u):=keyOf_int_mk underlying3 a
theorem fu.look{w:World}{b n:Nat}{t1 t2:Bool}(h:fu w b n t1 t2):
  (Instr.lookup 248 (.map (some b)) (.int .i64 1) false).run Tryz.prog w=.ok (.int .i64 (if t1 then 1 else 0)) w/\
  (Instr.lookup 248 (.map (some b)) (.int .i64 2) false).run Tryz.prog w=.ok (.int .i64 (if t2 then 1 else 0)) w:=by
 obtain⟨D,j,d,a,c,l, -, -⟩:=h;obtain⟨k,g,e, -⟩:=d.lookup_int vH underlying248 underlying3 (IX _) (Dg 1 dT);obtain⟨c2,i,f, -⟩:=d.lookup_int vH underlying248 underlying3 (IX _) (Dg 2 dT);rw[e]at a;rw[f]at c;injection a with a;injection a with _ a;injection c with c;injection c with _ c;subst a c;exact⟨g,i⟩
theorem fu.YP{w}{b n}{t1 t2}(h:fu w b n t1 t2)(a:n<=1000000):
  ∃w',(Instr.mapUpdate 248 (.map (some b)) (.int .i64 1) (.int .i64 1)).run Tryz.prog w=.ok () w'/\fu w' b (n+1) true t2/\w.grownBy w' (some b):=by
 let⟨c',c0,z,h1,h2,bb,b4,cs⟩:=h;let⟨w',hr,ho,hg⟩:=z.update vH underlying248 (by unfold maxLen;omega) (Dg 1 dT) (plainElem_int underlying3 (dT:(Lit.int .i64 1).wf=true));exact⟨w',hr,⟨_,c0,ho,(atKey_put_same z.isMap (by simp[WideAt.IsKeyLit]) _ _).trans (by simp),(atKey_put_other (by simp) _ _).trans h2,(atKey_put_other (by simp) _ _).trans bb,b4,oT⟩,hg⟩
theorem fu.YF{w}{b n}{t1 t2}(h:fu w b n t1 t2)(a:n<=1000000):
  ∃w',(Instr.mapUpdate 248 (.map (some b)) (.int .i64 2) (.int .i64 1)).run Tryz.prog w=.ok () w'/\fu w' b (n+1) t1 true/\w.grownBy w' (some b):=by
 let⟨c',c0,z,h1,h2,bb,b4,cs⟩:=h;let⟨w',hr,ho,hg⟩:=z.update vH underlying248 (by unfold maxLen;omega) (Dg 2 dT) (plainElem_int underlying3 (dT:(Lit.int .i64 1).wf=true));exact⟨w',hr,⟨_,c0,ho,(atKey_put_other (by simp) _ _).trans h1,(atKey_put_same z.isMap (by simp[WideAt.IsKeyLit]) _ _).trans (by simp),(atKey_put_other (by simp) _ _).trans bb,b4,oT⟩,hg⟩
theorem fu.YG{w}{b n}{t1 t2}(h:fu w b n t1 t2)(d:n<=1000000):
  ∃(c:Int) (w':World),0<=c/\c<=1000000/\(Instr.lookup 248 (.map (some b)) (.int .i64 0) false).run Tryz.prog w=.ok (.int .i64 c) w/\(Instr.mapUpdate 248 (.map (some b)) (.int .i64 0) (.int .i64 (c+1))).run Tryz.prog w=.ok () w'/\fu w' b (n+1) t1 t2/\w.grownBy w' (some b):=by
 let⟨em,c0,z,h1,h2,bb,c',ds⟩:=h;let⟨c,cs,b4,dr⟩:=z.lookup_int vH underlying248 underlying3 (IX _) (Dg 0 dT);rw[b4]at bb;injection bb with bb;injection bb with _ bb;subst bb;have a:(Lit.int .i64 (c+1)).wf=true:=by
  simp only[Lit.wf,IntKind.min,IntKind.max,IntKind.signed,IntKind.bits,aP,aY];simp;omega
 let⟨w',hr,ho,hg⟩:=z.update vH underlying248 (by unfold maxLen;omega) (Dg 0 dT) (plainElem_int underlying3 a);exact⟨c,w',c',oT,cs,hr,⟨_,c+1,ho,(atKey_put_other (by simp) _ _).trans h1,(atKey_put_other (by simp) _ _).trans h2,(atKey_put_same z.isMap (by simp[WideAt.IsKeyLit]) _ _),oT,oT⟩,hg⟩
theorem fu.kept{w w':World}{b n:Nat}{t1 t2:Bool}(h:fu w b n t1 t2)(a:Below w.heap.size w w'):fu w' b n t1 t2:=by
 obtain⟨D,d,c,e⟩:=h;exact⟨D,d,c.kept (row:=none) ⟨a.os,a.tape,a.output,a.size,λk f _=>a.block k f⟩ (by simp),e⟩
theorem fu.grown{w w':World}{b n:Nat}{t1 t2:Bool}{row:Option Nat}(h:fu w b n t1 t2)(f:w.grownBy w' row)(c:some b≠row):fu w' b n t1 t2:=by
 obtain⟨D,d,a,e⟩:=h;exact⟨D,d,a.kept f c,e⟩
theorem fu.ne{w:World}{b n:Nat}{t1 t2:Bool}(h:fu w b n t1 t2){base:Nat}{e:TypeId}{size m:Nat}{v:Value}{i:List Value}(f:w.ownsRow base e size v m i):v.ownBlock=none\/v.ownBlock≠some b:=by
 obtain⟨D,j,⟨k,a,c, -⟩, -⟩:=h;rcases f.2 with ⟨rfl, -⟩|⟨g,bb,b4,rfl, -,z, -⟩
 .exact .inl rfl
 refine .inr λd=>?_;have:g=b:=by simpa [Value.ownBlock]using d
 subst this;rw[c]at z;cases z
theorem Sl.one{i:Type}(f:i->Value){o:Nat}{e:TypeId}{w wr:World}{A:Option Addr}{n c:Nat}{l:List i}(h:Sl o e 1 w (.slice A n c) n (l.flatMap λa=>[f a]))(r:Below w.heap.size w wr){k:Nat}(u:n=l.length)(t:k<n):
  ∃b d x,A=some ⟨b,d,none⟩/\l[k]?=some x/\b<w.heap.size/\wr.cell? ⟨b,d+k,none⟩=some (f x):=by
 obtain⟨z,B,v,C,D,E,p⟩:=h;injection v with q y g;subst q g u;obtain⟨b,d,rfl, -,g⟩:=p oT;have m:l[k]?=some l[k]:=aA t;have s:(l.flatMap λa=>[f a])[k]?=some (f l[k]):=by
  have j:∀l:List i,(l.flatMap λa=>[f a])=l.map f:=by
   intro l
   induction l with
   |nil=>rfl
   |cons a l ih=>simp only[gW,jC,ih];rfl
  rw[j,aX,m];rfl
 have:=g k _ s;exact⟨b,d,_,R,m,tH this,(r.cell (tH this)).trans this⟩
def Cy(k:Int)(u:Nat)(hu:rM k=u)(w:World):Calls Tryz.prog 181 #[.int .i64 k] w λe w'=>e=.returned (.int .i64 u)/\w=w':=by
 subst hu;have h:k=2\/k=3\/k=4\/(¬k=2/\ ¬k=3/\ ¬k=4):=oT;rcases h with rfl|rfl|rfl|⟨h2,h3,h4⟩
 .go_enter func181,ntmps181;go_wp2;go_ret;exact⟨rfl,rfl⟩
 .go_enter func181,ntmps181;go_wp2;go_ret;exact⟨rfl,rfl⟩
 .go_enter func181,ntmps181;go_wp2;go_ret;exact⟨rfl,rfl⟩
 have hv:Hid (rM k=0):=by show _=_;simp[rM,h2,h3,h4]
 go_enter func181,ntmps181;go_wp2;go_ret;exact⟨by rw[hv.out];rfl,R⟩
end Go.Proofs.YtiaekocjeinkjaaGreatDoor
