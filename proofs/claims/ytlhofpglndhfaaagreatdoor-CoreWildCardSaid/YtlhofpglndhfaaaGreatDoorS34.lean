/- Joined texts. -/
import Derived.Test.YtlhofpglndhfaaaGreatDoorS1
import Derived.Test.YtlhofpglndhfaaaGreatDoorS32
import Derived.Test.YtlhofpglndhfaaaGreatDoorS33
namespace Go.Proofs.YtlhofpglndhfaaaGreatDoor
open Go.RowKit
abbrev cN(n:Nat):List AV:=[.v (.int .u32 (n:Int))]
theorem mS:∀ (l:List UInt8),dH (l.map λ b=>[.v (.int .u8 (b.toNat:Int))])=some l
 |[]=>rfl
 |b::l=>by
  simp only[UR,dH,mS l];simp
theorem aL{C:Ctx}{fn:Func}{r:AV}{st:ASt}{rs:List AV}(h1:resA C st fn.results.toList=some rs)(h2:dX st.h (zX rs))(h3:cA (mX st.h (zX rs))=true)(h4:mX st.h (zX rs)=r):NG C fn r st:=Bm h1 h2 h3 h4
theorem fT{C:Ctx}{fn:Func}{r:AV}{st:ASt}{rs:List AV}(h1:resA C st fn.results.toList=some rs)(h4:mX st.h (zX rs)=r)(h2:dX st.h (zX rs):=by exact trivial)(h3:cA (mX st.h (zX rs))=true:=by exact rfl):NG C fn r st:=aL h1 h2 h3 h4
set_option maxRecDepth 100000 in
set_option maxHeartbeats 4000000 in
theorem Be(i:SI):aT C0 100 [siA i] (.tup [.v (.int .i64 i.rs1),.v (.int .i64 i.rs2)]):=by
 refine aT.intro c0Ok Tryz.func100 rfl rfl (by kernel_rfl) rfl ?_;refine aA ?_;refine aB rfl ?_;refine rFx (d:=1) (x:=.ptr 0 0) (h':=upd _ 0 (some (.box [.v (.int .i64 i.op),.v (.int .i64 i.rd),.v (.int .i64 i.rs1),.v (.int .i64 i.rs2),.v (.int .u32 ((i.imm:Nat):Int))]))) rfl rfl (rfl) (trivial) ?_;refine rOk (d:=2) (x:=.v (.int .i64 0)) rfl rfl rfl ?_;refine rOk (d:=3) (x:=.v (.int .i64 0)) rfl rfl rfl ?_;refine EG (n':=3) rfl ?_;refine aA ?_;refine aB rfl ?_;refine rOk (d:=4) (x:=.ptr 0 2) rfl rfl rfl ?_;refine rOk (d:=5) (x:=.v (.int .i64 i.rs1)) rfl rfl rfl ?_;refine rOk (d:=6) (x:=.ptr 0 3) rfl rfl rfl ?_;refine rOk (d:=7) (x:=.v (.int .i64 i.rs2)) rfl rfl rfl ?_;refine rOk (d:=2) (x:=.v (.int .i64 i.rs1)) rfl rfl rfl ?_;refine rOk (d:=3) (x:=.v (.int .i64 i.rs2)) rfl rfl rfl ?_;refine EG (n':=9) rfl ?_;refine bC ?_;exact Bm rfl trivial rfl rfl
theorem Mw{prog:List Nat}{pc:Nat}(h1:pc % 4=0)(h2:pc / 4<prog.length):∃ x,fetchP prog pc=some x∧prog[((pc / 4:Nat):Int).toNat]?=some x:=by
 refine⟨prog[pc / 4],?_,?_⟩
 ·unfold fetchP;rw[if_pos h1,SS h2]
 ·rw[Int.toNat_natCast,SS h2]
theorem Mx{prog:List Nat}{pc:Nat}(h:pc % 4≠0∨prog.length≤pc / 4):fetchP prog pc=none:=by
 unfold fetchP;split
 ·exact Tx (by omega)
 ·rfl
theorem qH(a:Nat):up4 a≤4294967295:=by unfold up4;omega
theorem OR{n:Nat}(h:n≤1000000):IntKind.wrap .u64 ((n:Int))=(n:Int):=by
 simp only[IntKind.wrap,IntKind.signed,IntKind.bits];simp;omega
set_option maxRecDepth 100000 in
set_option maxHeartbeats 4000000 in
theorem Kq(prog:List Nat)(pc:Nat)(clip:Bool)(hp:∀ x∈prog,x≤4294967295)(hl:prog.length≤1000000)(hpc:pc≤4294967295):aT C0 113 [.sl 1 (prog.map cN) clip,.v (.int .u32 (pc:Int))] (.tup [.v (.int .u32 (fetchW prog pc:Int)),.v (.bool (fetchP prog pc).isSome)]):=by
 refine aT.intro c0Ok Tryz.func113 rfl rfl (by kernel_rfl) rfl ?_;refine aA ?_;refine aB rfl ?_;refine rOk (d:=4) (x:=.v (.int .u32 0)) rfl rfl rfl ?_;refine rOk (d:=5) (x:=.v (.bool false)) rfl rfl rfl ?_;refine EG (n':=2) rfl ?_;refine aA ?_;refine aA ?_;refine aB rfl ?_;refine rOk (d:=6) (x:=.v (.int .u32 (pc:Int))) rfl rfl rfl ?_;have b1:pc % 4≤3:=Ti (Tp _ (by decide));refine aG (d:=7) (x:=.v (.int .u32 ((pc % 4:Nat):Int))) rfl rfl rfl (by decide) ?_;refine rOk (d:=8) (x:=.v (.bool ((pc % 4) != 0))) rfl rfl (okB (neN _ _)) ?_;refine rOk (d:=9) (x:=.v (.bool ((pc % 4) != 0))) rfl rfl rfl ?_;refine gOk (d:=10) (x:=.v (.int .u32 (pc:Int))) (g:= !((pc % 4) != 0)) rfl rfl rfl rfl rfl rfl ?_;have b2:pc / 4≤1073741823:=Vg hpc;refine nG (d:=11) (x:=.v (.int .u32 ((pc / 4:Nat):Int))) (g:= !((pc % 4) != 0)) rfl rfl rfl rfl (λ h=>h) rfl (GN (CT b2 rfl)) (λ _=>by decide) ?_;refine Pv (d:=12) (x:=.v (.int .u64 ((pc / 4:Nat):Int))) (g:= !((pc % 4) != 0)) rfl rfl rfl rfl (λ h=>h) rfl (okI (CT b2 rfl)) ?_;refine gOk (d:=13) (x:=.sl 1 (prog.map cN) clip) (g:= !((pc % 4) != 0)) rfl rfl rfl rfl rfl rfl ?_;refine Pv (d:=14) (x:=.v (.int .i64 ((prog.map cN).length:Int))) (g:= !((pc % 4) != 0)) rfl rfl rfl rfl (λ h=>h) rfl rfl ?_;refine Pv (d:=15) (x:=.v (.int .u64 ((prog.length:Nat):Int))) (g:= !((pc % 4) != 0)) rfl rfl rfl rfl (λ h=>h) rfl (by show Res.ok (.v (.int .u64 (IntKind.wrap .u64 ((((prog.map cN).length:Nat):Int)))))=_;rw[Td,OR hl]) ?_;refine Pv (d:=16) (x:=.v (.bool (decide ((pc / 4)≥prog.length)))) (g:= !((pc % 4) != 0)) rfl rfl rfl rfl (λ h=>by simp_all) rfl (okB (geN _ _)) ?_;refine aG (d:=17) (x:=.v (.bool (aO ((pc % 4) != 0) true (decide ((pc / 4)≥prog.length))))) rfl rfl rfl (by simp) ?_;refine EG (n':=14) rfl ?_;refine aE (v:=aO ((pc % 4) != 0) true (decide ((pc / 4)≥prog.length))) rfl (λ h1=>?_) (λ h1=>?_)
 ·skip
  refine aA ?_;refine aB rfl ?_;refine rOk (d:=4) (x:=.v (.int .u32 0)) rfl rfl rfl ?_;refine rOk (d:=5) (x:=.v (.bool false)) rfl rfl rfl ?_;refine EG (n':=16) rfl ?_;refine bC ?_;exact aL rfl trivial rfl (by unfold fetchW;rw[Mx (by simp[aO,bne]at h1;split at h1<;>first|(left;assumption)|(right;assumption)|simp_all)];rfl)
 ·skip
  refine aF ?_;refine aA ?_;refine aB rfl ?_;refine rOk (d:=18) (x:=.sl 1 (prog.map cN) clip) rfl rfl rfl ?_;refine rOk (d:=19) (x:=.v (.int .u32 (pc:Int))) rfl rfl rfl ?_;have b3:pc / 4≤1073741823:=Vg hpc;refine aG (d:=20) (x:=.v (.int .u32 ((pc / 4:Nat):Int))) rfl rfl (GN (CT b3 rfl)) (by decide) ?_;obtain⟨x,hf,hxx⟩:=Mw (prog:=prog) (pc:=pc) (by simp[aO,bne]at h1;split at h1<;>simp_all) (by simp[aO,bne]at h1;split at h1<;>simp_all);have hx:x≤4294967295:=hp x (ST hxx);refine dS (cN x) (d:=21) (x:=.dp 1 0 (cN x)) rfl rfl rfl (⟨by omega,by rw[Tq];exact congrArg (Option.map cN) hxx⟩) rfl ?_;refine rOk (d:=22) (x:=.v (.int .u32 (x:Int))) rfl rfl rfl ?_;refine rOk (d:=4) (x:=.v (.int .u32 (x:Int))) rfl rfl rfl ?_;refine rOk (d:=5) (x:=.v (.bool true)) rfl rfl rfl ?_;refine EG (n':=21) rfl ?_;refine bC ?_;exact aL rfl trivial rfl (by unfold fetchW;rw[hf];rfl)
theorem pX(m:ByteArray):(aS m).length=m.size:=by simp[aS]
def upS(n:Nat):Nat:=if n≤16 then 16 else if n≤32 then 32 else if n≤64 then 64 else if n≤128 then 128 else 256
def lG(m:ByteArray):ByteArray:=⟨((m.extract 0 (min m.size 256)).data.toList++List.replicate (upS (min m.size 256) - min m.size 256) 0).toArray⟩
theorem uP(m:ByteArray):(m.extract 0 (min m.size 256)).size=min m.size 256:=by rw[Uh];omega
theorem zN(m:ByteArray):(lG m).size=upS (min m.size 256):=by
 have h:=uP m;have h1:(m.extract 0 (min m.size 256)).data.size=min m.size 256:=h;show (lG m).data.size=_;simp only[lG,VB,To,TZ,TM,h1];unfold upS
 repeat' (split<;>try omega)
theorem Nq{n j:Nat}(h4:j≤4)(h1:n≤16 * 2 ^ j)(h2:j=0∨16 * 2 ^ (j - 1)<n):16 * 2 ^ j=upS n:=by
 have:j=0∨j=1∨j=2∨j=3∨j=4:=by omega
 unfold upS;rcases this with rfl|rfl|rfl|rfl|rfl<;>simp at h1 h2⊢ <;>repeat' (split<;>try omega)
theorem GA{j n:Nat}(h4:j≤4)(h:16 * 2 ^ j<min n 256):j<4:=by
 have:j=0∨j=1∨j=2∨j=3∨j=4:=by omega
 rcases this with rfl|rfl|rfl|rfl|rfl<;>simp at h⊢ <;>omega
theorem HE(m:ByteArray)(s:Nat)(h:m.size≤s):dH (List.take s (List.drop 0 (List.take 0 (List.replicate s [AV.v (.int .u8 0)])++List.take (min (aS m).length s) (aS m)++List.drop (0+min (aS m).length s) (List.replicate s [AV.v (.int .u8 0)]))))=some (m.data.toList++List.replicate (s - m.size) 0):=by
 have q:=pX m;simp only[Wd,UN,TJ,Tz,q,Wr h];have e1:List.take m.size (aS m)=aS m:=Te (by rw[q];exact SU _);rw[e1,List.drop_replicate,Te (by simp[q];omega)];have:List.replicate (s - m.size) [AV.v (.int .u8 0)]=(List.replicate (s - m.size) (0:UInt8)).map λ b=>[.v (.int .u8 (b.toNat:Int))]:=by simp
 rw[this];simp only[aS];rw[←Ux];exact mS _
set_option maxRecDepth 100000 in
set_option maxHeartbeats 4000000 in
theorem Nr(m:ByteArray):aT C0 42 [.v (.string m)] (.v (.string (lG m))):=by
 refine aT.intro c0Ok Tryz.func42 rfl rfl (by kernel_rfl) rfl ?_;refine aA ?_;refine aB rfl ?_;refine rOk (d:=2) (x:=.v (.string (⟨#[]⟩))) rfl rfl rfl ?_;refine EG (n':=1) rfl ?_;refine aA ?_;refine aB rfl ?_;refine rOk (d:=5) (x:=.v (.string m)) rfl rfl rfl ?_;refine rOk (d:=6) (x:=.v (.string m)) rfl rfl rfl ?_;refine rOk (d:=7) (x:=.v (.int .i64 (m.size:Int))) rfl rfl rfl ?_;refine rOk (d:=8) (x:=.v (.int .i64 ((min m.size 256:Nat):Int))) rfl rfl (by show Res.ok (.v (.int .i64 (if (256:Int)<(m.size:Int)then 256 else (m.size:Int))))=_;congr 3;split<;>omega) ?_;refine aG (d:=9) (x:=.v (.string (m.extract 0 (min m.size 256)))) rfl rfl rfl (by refine⟨?_,?_,?_⟩<;>simp<;>omega) ?_;refine rOk (d:=0) (x:=.v (.string (m.extract 0 (min m.size 256)))) rfl rfl rfl ?_;refine EG (n':=7) rfl ?_;refine aA ?_;refine aB rfl ?_;refine rOk (d:=3) (x:=.v (.int .i64 16)) rfl rfl rfl ?_;refine EG (n':=8) rfl ?_;refine aA ?_;refine aK ?_;refine fU (κ:=Nat) (λ j=>⟨aY [(0,.v (.string (m.extract 0 (min m.size 256)))),(3,.v (.int .i64 ((16 * 2 ^ j:Nat):Int)))],heapF [],8⟩) (λ j=>j≤4∧(j=0∨16 * 2 ^ (j - 1)<min m.size 256)) (λ j=>4 - j) 0 (λ s=>s) (Weak.of_lists (λ s=>s) ⟨⟨rfl,rfl⟩,⟨rfl,rfl⟩,trivial⟩ trivial rfl) (⟨by decide,.inl rfl⟩) ?_;intro j hj;refine aA ?_;refine aA ?_;refine aB rfl ?_;refine rOk (d:=10) (x:=.v (.int .i64 ((16 * 2 ^ j:Nat):Int))) rfl rfl rfl ?_;refine rOk (d:=11) (x:=.v (.string (m.extract 0 (min m.size 256)))) rfl rfl rfl ?_;refine rOk (d:=12) (x:=.v (.int .i64 ((min m.size 256:Nat):Int))) rfl rfl (congrArg (λ n:Nat=>Res.ok (.v (.int .i64 (n:Int)))) (uP m)) ?_;refine rOk (d:=13) (x:=.v (.bool (decide ((16 * 2 ^ j)<(min m.size 256))))) rfl rfl (okB (ltN _ _)) ?_;refine EG (n':=12) rfl ?_;refine aE (v:=decide ((16 * 2 ^ j)<(min m.size 256))) rfl (λ h1=>?_) (λ h1=>?_)
 ·skip
  refine aF ?_;refine aK ?_;refine aB rfl ?_;refine rOk (d:=14) (x:=.v (.int .i64 ((16 * 2 ^ j:Nat):Int))) rfl rfl rfl ?_;refine rOk (d:=15) (x:=.v (.int .i64 ((16 * 2 ^ (j+1):Nat):Int))) rfl rfl (by show Res.ok (.v (.int .i64 (IntKind.wrap .i64 (((16 * 2 ^ j:Nat):Int) * 2))))=_;have p5:=Ut (n:=2) (by decide) hj.1;rw[wrap_i64 (by omega) (by omega)];congr 3;rw[Nat.pow_succ];omega) ?_;refine rOk (d:=3) (x:=.v (.int .i64 ((16 * 2 ^ (j+1):Nat):Int))) rfl rfl rfl ?_;refine EG (n':=15) rfl ?_;refine⟨j+1,λ s=>s,Weak.of_lists (λ s=>s) ⟨⟨rfl,rfl⟩,⟨rfl,rfl⟩,trivial⟩ trivial rfl,⟨by have:=GA hj.1 (of_decide_eq_true h1);omega,.inr (by simpa using of_decide_eq_true h1)⟩,by have:=GA hj.1 (of_decide_eq_true h1);show 4 - (j+1)<4 - j;omega⟩
 ·skip
  refine bU ?_;refine aA ?_;refine aB rfl ?_;refine rOk (d:=16) (x:=.v (.int .i64 ((16 * 2 ^ j:Nat):Int))) rfl rfl rfl ?_;refine rFx (d:=17) (x:=.osl 13 0 (16 * 2 ^ j) false) (h':=upd _ 13 (some (.arr (List.replicate (16 * 2 ^ j) [AV.v (.int .u8 0)]) 1))) rfl rfl (rfl) (by have p5:=Ut (n:=2) (by decide) hj.1;refine⟨by omega,by omega,?_⟩;simp only[gO];omega) ?_;refine rOk (d:=4) (x:=.osl 13 0 (16 * 2 ^ j) false) rfl rfl rfl ?_;refine EG (n':=15) rfl ?_;refine aA ?_;refine aB rfl ?_;refine rOk (d:=18) (x:=.osl 13 0 (16 * 2 ^ j) false) rfl rfl rfl ?_;refine rOk (d:=19) (x:=.v (.string (m.extract 0 (min m.size 256)))) rfl rfl rfl ?_;refine rFx (d:=20) (x:=.v (.int .i64 ((min (aS (m.extract 0 (min m.size 256))).length (16 * 2 ^ j):Nat):Int))) (h':=upd _ 13 (some (.arr (List.take 0 (List.replicate (16 * 2 ^ j) [AV.v (.int .u8 0)])++List.take (min (aS (m.extract 0 (min m.size 256))).length (16 * 2 ^ j)) (aS (m.extract 0 (min m.size 256)))++List.drop (0+min (aS (m.extract 0 (min m.size 256))).length (16 * 2 ^ j)) (List.replicate (16 * 2 ^ j) [AV.v (.int .u8 0)])) 1))) rfl rfl (rfl) (⟨by simp,trivial⟩) ?_;refine EG (n':=18) rfl ?_;refine aA ?_;refine aB rfl ?_;refine rOk (d:=21) (x:=.osl 13 0 (16 * 2 ^ j) false) rfl rfl rfl ?_;refine Rn ((m.extract 0 (min m.size 256)).data.toList++List.replicate (upS (min m.size 256) - min m.size 256) 0) (d:=22) rfl rfl rfl (by show 0+16 * 2 ^ j≤List.length (List.take 0 (List.replicate (16 * 2 ^ j) [AV.v (.int .u8 0)])++List.take (min (aS (m.extract 0 (min m.size 256))).length (16 * 2 ^ j)) (aS (m.extract 0 (min m.size 256)))++List.drop (0+min (aS (m.extract 0 (min m.size 256))).length (16 * 2 ^ j)) (List.replicate (16 * 2 ^ j) [AV.v (.int .u8 0)]));have q:=pX (m.extract 0 (min m.size 256));have q2:=uP m;have:=SW h1;simp only[To,Tg,Tn,TM,q,q2];omega) (by have e:=HE (m.extract 0 (min m.size 256)) (16 * 2 ^ j) (by have:=SW h1;rw[uP];omega);rw[uP,Nq hj.1 (by have:=SW h1;omega) hj.2]at e;rw[Nq hj.1 (by have:=SW h1;omega) hj.2];exact e) ?_;refine rOk (d:=2) (x:=.v (.string (lG m))) rfl rfl rfl ?_;refine EG (n':=21) rfl ?_;refine bC ?_;exact Bm rfl trivial rfl rfl
set_option maxRecDepth 100000
set_option maxHeartbeats 4000000
abbrev dD(n:Int):List AV:=[.v (.int .i64 n)]
abbrev cfL(c:Cf)(cl ct:Bool):List AV:=[.v (.int .i64 c.mode),.v (.int .i64 c.width),.v (.int .i64 c.rob),.v (.int .i64 c.queue),.v (.int .i64 c.stores),.v (.int .i64 c.slots),.v (.int .i64 c.sets),.v (.int .i64 c.ways),.sl 1 (c.lat.map dD) cl,.v (.bool c.tables),.sl 1 (c.tape.map cN) ct]
structure Cf.ok(c:Cf):Prop where
 lat:c.lat.length≤9223372036854775807
 tape:c.tape.length≤9223372036854775807
 tp:∀ x∈c.tape,x≤4294967295
mutual
theorem pR(σ:Nat→Nat):∀ (a:AV),cA a=true→mI σ a=a
 | .v _,_| .sl _ _ _,_| .dp _ _ _,_=>by simp[mI]
 | .agg cs,h=>by simp only[mI,iT σ cs (by simpa [cA]using h)]
 | .tup cs,h=>by simp only[mI,iT σ cs (by simpa [cA]using h)]
 | .clo f a b,h=>by
  simp only[cA]at h;split at h
  ·rename_i ha;simp only[mI,iT σ a ha,iT σ b h]
  ·cases h
 | .ptr _ _,h| .ptr2 _ _ _,h| .osl _ _ _ _,h| .opt _ _,h| .any,h=>by cases h
theorem iT(σ:Nat→Nat):∀ (cs:List AV),cO cs=true→uT σ cs=cs
 |[],_=>by simp[uT]
 |c::cs,h=>by
  simp only[cO]at h;split at h
  ·rename_i hc;simp only[uT,pR σ c hc,iT σ cs h]
  ·cases h
end
mutual
theorem Cs(n:Nat):∀ (a:AV),cA a=true→fR n a=true
 | .v _,_| .sl _ _ _,_| .dp _ _ _,_=>by simp[fR]
 | .agg cs,h=>by simp only[fR,fW n cs (by simpa [cA]using h)]
 | .tup cs,h=>by simp only[fR,fW n cs (by simpa [cA]using h)]
 | .clo f a b,h=>by
  simp only[cA]at h;split at h
  ·rename_i ha;simp only[fR,fW n a ha,fW n b h]
  ·cases h
 | .ptr _ _,h| .ptr2 _ _ _,h| .osl _ _ _ _,h| .opt _ _,h| .any,h=>by cases h
theorem fW(n:Nat):∀ (cs:List AV),cO cs=true→iE n cs=true
 |[],_=>by simp[iE]
 |c::cs,h=>by
  simp only[cO]at h;split at h
  ·rename_i hc;simp only[iE,Cs n c hc,fW n cs h]
  ·cases h
end
theorem RI(σ:Nat→Nat){cs:List AV}(h:cO cs=true):some (Blk.box cs)=some (Ae σ (.box cs)):=by simp only[Ae,iT σ cs h]
theorem RU(n:Nat){cs:List AV}(h:cO cs=true):kV n (.box cs)=true:=by simp only[kV,fW n cs h]
theorem QE(cells:List AV)(col:Nat)(n lo hi:Int)(hn:FD cells col=some (.v (.int .i64 n)))(hc:col+1≤cells.length)(hcl:cO (qS col [.v (.int .i64 (aM n lo hi))] cells)=true):
  iK C0.P C0.G 82 [.ptr 0 col,.v (.int .i64 lo),.v (.int .i64 hi)] (heapF [(0,.box cells)]) 1 (λ x h'=>x=.tup []∧h'=heapF [(0,.box (qS col [.v (.int .i64 (aM n lo hi))] cells))]):=by
 refine HCall.intro (C:=C0) (s:=1) c0Ok.at Tryz.func82 rfl rfl (by kernel_rfl) rfl rfl<|aB rfl<|oR 3 rfl<|rW (.v (.int .i64 n)) rfl (by show okO (FD cells col)=_;rw[hn];rfl)<|oR 1 rfl<|rV (.v (.int .i64 (if lo>n then lo else n))) rfl<|oR 1 rfl<|rV (.v (.int .i64 (if hi<(if lo>n then lo else n)then hi else (if lo>n then lo else n)))) rfl<|oR 1 rfl ?_;have hb:Nat.ble (col+1) cells.length=true:=UZ hc;refine PK (p:=True) (h':=upd _ 0 (some (.box (qS col [.v (.int .i64 (aM n lo hi))] cells)))) rfl rfl (by
  show (match Nat.ble (col+1) cells.length with|true=>Res.fx True .any (upd _ 0 (some (.box (qS col [.v (.int .i64 (if hi<(if lo>n then lo else n)then hi else (if lo>n then lo else n)))] cells))))|false=>.bad)=_;rw[hb];rfl) trivial ?_
 refine rE 11 ?_;exact gY (rs:=[]) rfl (σ:=λ s=>s) ⟨rfl,rfl⟩ rfl (aV (λ s=>s) rfl rfl ⟨⟨rfl,RI _ hcl,RU _ hcl⟩,trivial⟩ rfl)
theorem pS{cells cells':List AV}{b col:Nat}{n lo hi:Int}{K:AH}{s2:Nat}(hn:FD cells col=some (.v (.int .i64 n)))(hc:Nat.ble (col+1) cells.length=true)(he:qS col [.v (.int .i64 (aM n lo hi))] cells=cells')(hcl:cO cells=true)(hcl':cO cells'=true)(hb:Nat.blt b s2=true)(hK:K b=some (.box cells)):
  iK C0.P C0.G 82 [.ptr b col,.v (.int .i64 lo),.v (.int .i64 hi)] K s2 (λ x h'=>x=.tup []∧h'=upd K b (some (.box cells'))):=by
 subst he;have:=(QE cells col n lo hi hn (Tf hc) hcl').frame1 b K s2 (Tf hb) (RU 1 hcl) (by rw[hK];exact RI _ hcl) rfl;rw[←RI (Ar (λ _=>b) 1 s2) hcl']at this;exact this
theorem OJ(rows:List (List AV))(k:Nat)(n lo hi:Int)(hn:rows[k]?=some [.v (.int .i64 n)]):
  iK C0.P C0.G 82 [.ptr2 0 k 0,.v (.int .i64 lo),.v (.int .i64 hi)] (heapF [(0,.arr rows 1)]) 1 (λ x h'=>x=.tup []∧h'=heapF [(0,.arr (rows.set k [.v (.int .i64 (aM n lo hi))]) 1)]):=by
 refine HCall.intro (C:=C0) (s:=1) c0Ok.at Tryz.func82 rfl rfl (by kernel_rfl) rfl rfl<|aB rfl<|oR 3 rfl<|dS [.v (.int .i64 n)] (x:=.v (.int .i64 n)) rfl rfl rfl ⟨SZ _,hn⟩ rfl<|oR 1 rfl<|rV (.v (.int .i64 (if lo>n then lo else n))) rfl<|oR 1 rfl<|rV (.v (.int .i64 (if hi<(if lo>n then lo else n)then hi else (if lo>n then lo else n)))) rfl<|oR 1 rfl<|gI [.v (.int .i64 n)] (h':=upd _ 0 (some (.arr (rows.set k [.v (.int .i64 (aM n lo hi))]) 1))) rfl rfl rfl ⟨SZ _,hn⟩ rfl<|rE 11 ?_;exact gY (rs:=[]) rfl (σ:=λ s=>s) ⟨rfl,rfl⟩ rfl (aV (λ s=>s) rfl rfl wH rfl)
theorem Gl{rows rows':List (List AV)}{b k:Nat}{n lo hi:Int}{K:AH}{s2:Nat}(hn:rows[k]?=some [.v (.int .i64 n)])(he:rows.set k [.v (.int .i64 (aM n lo hi))]=rows')(hb:Nat.blt b s2=true)(hK:K b=some (.arr rows 1)):
  iK C0.P C0.G 82 [.ptr2 b k 0,.v (.int .i64 lo),.v (.int .i64 hi)] K s2 (λ x h'=>x=.tup []∧h'=upd K b (some (.arr rows' 1))):=by
 subst he;exact (OJ rows k n lo hi hn).frame1 b K s2 (Tf hb) rfl hK rfl
theorem zH(a b:Nat):Res.ok (.v (.int .i64 (if (b:Int)<(a:Int)then (b:Int)else (a:Int))))=.ok (.v (.int .i64 ((min a b:Nat):Int))):=by congr 3;split<;>omega
theorem uM{α:Type}(f:α→List AV)(l:List α)(z:List AV)(n:Nat)(hn:n=min l.length 64):(List.replicate n z).take 0++(l.map f).take (min (l.map f).length n)++(List.replicate n z).drop (0+min (l.map f).length n)=(l.take 64).map f:=by
 subst hn;rw[Td,Wd,UN,Ug (by rw[TM];omega),Ul, ←Uu];congr 1;rcases Nat.le_total l.length 64 with h|h
 ·rw[Te omT,Te omT]
 ·congr 1;omega
theorem aN{α:Type}(f:α→List AV)(l:List α):Res.ok (.v (.int .i64 ((l.map f).length:Int)))=.ok (.v (.int .i64 ((l.length:Nat):Int))):=by rw[Td]
def wV(c:Cf)(k:Nat):List (List AV):=((((c.lat.take 64).take k).map λ n=>aM n 1 8)++(c.lat.take 64).drop k).map dD
theorem Gm(c:Cf)(k:Nat)(h:(c.lat.take 64).length≤k):wV c k=(aP c).lat.map dD:=by
 unfold wV aP;rw[Te h,Ug h,Ul]
theorem Gn{c:Cf}{k:Nat}{x:Int}(hx:(c.lat.take 64)[k]?=some x):(wV c k)[k]?=some (dD x):=by
 have hk:=(WB.1 hx).1;unfold wV;rw[Tq,TA (by simp;omega)];simp only[Td,Tg];rw[TS,show k+(k - min k (min 64 c.lat.length))=k by have:k<(c.lat.take 64).length:=hk;rw[Tg]at this;omega,hx];rfl
theorem Gp{c:Cf}{k:Nat}{x:Int}(hx:(c.lat.take 64)[k]?=some x):(wV c k).set k [.v (.int .i64 (aM x 1 8))]=wV c (k+1):=by
 unfold wV;generalize c.lat.take 64=l at hx⊢;have hk:=(WB.1 hx).1;have hl:((l.take k).map λ n=>aM n 1 8).length=k:=by rw[Td,Tg];omega
 have hx':l[k]=x:=by rw[SS hk]at hx;exact Option.some.inj hx
 rw[show ([.v (.int .i64 (aM x 1 8))]:List AV)=dD (aM x 1 8)from rfl, ←List.map_set,Va _ _ omT,hl,UI,Uf hk,UY,TD,hx];simp
theorem Gq(c:Cf)(k:Nat)(h:k≤(c.lat.take 64).length):(wV c k).length=(c.lat.take 64).length:=by
 unfold wV;simp only[Td,To,Tn];rw[List.length_take_of_le h];omega
theorem Ct{p:Prop}{x:AV}{h:AH}{b rs:Nat}{r r':List (List AV)}(e:r=r'):Res.fx p x (upd h b (some (.arr r rs)))=.fx p x (upd h b (some (.arr r' rs))):=by rw[e]
theorem Cu(c:Cf)(cl ct:Bool)(hok:c.ok):aT C0 39 [.agg (cfL c cl ct)] (.agg (cfL (aP c) false false)):=by
 refine aT.intro c0Ok Tryz.func39 rfl rfl (by kernel_rfl) rfl<|aA<|aB rfl<|rAl 0 rfl rfl<|rAl 1 rfl rfl<|rE 2<|aA<|aB rfl<|oR 1 rfl<|rE 3<|aA<|aB rfl<|oR 2 rfl<|bP (args:=[.ptr 0 0,vI 0,vI 2]) (d:=9) _ rfl rfl rfl (pS (cells:=[vI c.mode,vI c.width,vI c.rob,vI c.queue,vI c.stores,vI c.slots,vI c.sets,vI c.ways,.sl 1 (c.lat.map dD) cl,vB c.tables,.sl 1 (c.tape.map cN) ct]) (cells':=[vI (aM c.mode 0 2),vI c.width,vI c.rob,vI c.queue,vI c.stores,vI c.slots,vI c.sets,vI c.ways,.sl 1 (c.lat.map dD) cl,vB c.tables,.sl 1 (c.tape.map cN) ct]) rfl rfl rfl rfl rfl rfl rfl) ?_;rintro _ _ ⟨rfl,rfl⟩;refine rE 6<|aA<|aB rfl<|oR 2 rfl<|bP (args:=[.ptr 0 1,vI 1,vI 2]) (d:=12) _ rfl rfl rfl (pS (cells:=[vI (aM c.mode 0 2),vI c.width,vI c.rob,vI c.queue,vI c.stores,vI c.slots,vI c.sets,vI c.ways,.sl 1 (c.lat.map dD) cl,vB c.tables,.sl 1 (c.tape.map cN) ct]) (cells':=[vI (aM c.mode 0 2),vI (aM c.width 1 2),vI c.rob,vI c.queue,vI c.stores,vI c.slots,vI c.sets,vI c.ways,.sl 1 (c.lat.map dD) cl,vB c.tables,.sl 1 (c.tape.map cN) ct]) rfl rfl rfl rfl rfl rfl rfl) ?_;rintro _ _ ⟨rfl,rfl⟩;refine rE 9<|aA<|aB rfl<|oR 2 rfl<|bP (args:=[.ptr 0 2,vI 2,vI 8]) (d:=15) _ rfl rfl rfl (pS (cells:=[vI (aM c.mode 0 2),vI (aM c.width 1 2),vI c.rob,vI c.queue,vI c.stores,vI c.slots,vI c.sets,vI c.ways,.sl 1 (c.lat.map dD) cl,vB c.tables,.sl 1 (c.tape.map cN) ct]) (cells':=[vI (aM c.mode 0 2),vI (aM c.width 1 2),vI (aM c.rob 2 8),vI c.queue,vI c.stores,vI c.slots,vI c.sets,vI c.ways,.sl 1 (c.lat.map dD) cl,vB c.tables,.sl 1 (c.tape.map cN) ct]) rfl rfl rfl rfl rfl rfl rfl) ?_;rintro _ _ ⟨rfl,rfl⟩;refine rE 12<|aA<|aB rfl<|oR 2 rfl<|bP (args:=[.ptr 0 3,vI 1,vI 4]) (d:=18) _ rfl rfl rfl (pS (cells:=[vI (aM c.mode 0 2),vI (aM c.width 1 2),vI (aM c.rob 2 8),vI c.queue,vI c.stores,vI c.slots,vI c.sets,vI c.ways,.sl 1 (c.lat.map dD) cl,vB c.tables,.sl 1 (c.tape.map cN) ct]) (cells':=[vI (aM c.mode 0 2),vI (aM c.width 1 2),vI (aM c.rob 2 8),vI (aM c.queue 1 4),vI c.stores,vI c.slots,vI c.sets,vI c.ways,.sl 1 (c.lat.map dD) cl,vB c.tables,.sl 1 (c.tape.map cN) ct]) rfl rfl rfl rfl rfl rfl rfl) ?_;rintro _ _ ⟨rfl,rfl⟩;refine rE 15<|aA<|aB rfl<|oR 2 rfl<|bP (args:=[.ptr 0 4,vI 1,vI 4]) (d:=21) _ rfl rfl rfl (pS (cells:=[vI (aM c.mode 0 2),vI (aM c.width 1 2),vI (aM c.rob 2 8),vI (aM c.queue 1 4),vI c.stores,vI c.slots,vI c.sets,vI c.ways,.sl 1 (c.lat.map dD) cl,vB c.tables,.sl 1 (c.tape.map cN) ct]) (cells':=[vI (aM c.mode 0 2),vI (aM c.width 1 2),vI (aM c.rob 2 8),vI (aM c.queue 1 4),vI (aM c.stores 1 4),vI c.slots,vI c.sets,vI c.ways,.sl 1 (c.lat.map dD) cl,vB c.tables,.sl 1 (c.tape.map cN) ct]) rfl rfl rfl rfl rfl rfl rfl) ?_;rintro _ _ ⟨rfl,rfl⟩;refine rE 18<|aA<|aB rfl<|oR 2 rfl<|bP (args:=[.ptr 0 5,vI 2,vI 6]) (d:=24) _ rfl rfl rfl (pS (cells:=[vI (aM c.mode 0 2),vI (aM c.width 1 2),vI (aM c.rob 2 8),vI (aM c.queue 1 4),vI (aM c.stores 1 4),vI c.slots,vI c.sets,vI c.ways,.sl 1 (c.lat.map dD) cl,vB c.tables,.sl 1 (c.tape.map cN) ct]) (cells':=[vI (aM c.mode 0 2),vI (aM c.width 1 2),vI (aM c.rob 2 8),vI (aM c.queue 1 4),vI (aM c.stores 1 4),vI (aM c.slots 2 6),vI c.sets,vI c.ways,.sl 1 (c.lat.map dD) cl,vB c.tables,.sl 1 (c.tape.map cN) ct]) rfl rfl rfl rfl rfl rfl rfl) ?_;rintro _ _ ⟨rfl,rfl⟩;refine rE 21<|aA<|aB rfl<|oR 2 rfl<|bP (args:=[.ptr 0 6,vI 1,vI 4]) (d:=27) _ rfl rfl rfl (pS (cells:=[vI (aM c.mode 0 2),vI (aM c.width 1 2),vI (aM c.rob 2 8),vI (aM c.queue 1 4),vI (aM c.stores 1 4),vI (aM c.slots 2 6),vI c.sets,vI c.ways,.sl 1 (c.lat.map dD) cl,vB c.tables,.sl 1 (c.tape.map cN) ct]) (cells':=[vI (aM c.mode 0 2),vI (aM c.width 1 2),vI (aM c.rob 2 8),vI (aM c.queue 1 4),vI (aM c.stores 1 4),vI (aM c.slots 2 6),vI (aM c.sets 1 4),vI c.ways,.sl 1 (c.lat.map dD) cl,vB c.tables,.sl 1 (c.tape.map cN) ct]) rfl rfl rfl rfl rfl rfl rfl) ?_;rintro _ _ ⟨rfl,rfl⟩;refine rE 24<|aA<|aA<|aB rfl<|oR 2 rfl<|rV (vB ((aM c.sets 1 4)==3)) rfl<|rE 27 ?_;refine aE rfl (λ h1=>?_) (λ h1=>?_)
 ·refine aB rfl<|oR 1 rfl<|rSt rfl<|rE 29<|aA<|aB rfl<|oR 2 rfl<|bP (args:=[.ptr 0 7,vI 1,vI 2]) (d:=34) _ rfl rfl rfl (pS (cells:=[vI (aM c.mode 0 2),vI (aM c.width 1 2),vI (aM c.rob 2 8),vI (aM c.queue 1 4),vI (aM c.stores 1 4),vI (aM c.slots 2 6),vI 2,vI c.ways,.sl 1 (c.lat.map dD) cl,vB c.tables,.sl 1 (c.tape.map cN) ct]) (cells':=[vI (aM c.mode 0 2),vI (aM c.width 1 2),vI (aM c.rob 2 8),vI (aM c.queue 1 4),vI (aM c.stores 1 4),vI (aM c.slots 2 6),vI 2,vI (aM c.ways 1 2),.sl 1 (c.lat.map dD) cl,vB c.tables,.sl 1 (c.tape.map cN) ct]) rfl rfl rfl rfl rfl rfl rfl) ?_;rintro _ _ ⟨rfl,rfl⟩;refine rE 32<|aA<|aB rfl<|oR 2 rfl<|rW (vN c.lat.length) rfl (aN dD c.lat)<|rW (vN (min c.lat.length 64)) rfl (zH c.lat.length 64)<|rFx (x:=.osl 36 0 (min c.lat.length 64) false) (h':=upd _ 36 (some (.arr (List.replicate (min c.lat.length 64) [vI 0]) 1))) rfl rfl (rfl) (⟨SZ _,Vi _,by show (((min c.lat.length 64):Nat):Int)≤1000000;have:=(Tb (Un c.lat.length 64) (SU 64));omega⟩)<|oR 1 rfl<|rE 38<|aA<|aB rfl<|oR 3 rfl<|rFx (x:=vI ((min (c.lat.map dD).length (min c.lat.length 64):Nat):Int)) (h':=upd _ 36 (some (.arr (wV c 0) 1))) rfl rfl (Ct (uM dD c.lat [.v (.int .i64 0)] _ rfl)) (⟨by simp,trivial⟩)<|rE 42<|aA<|aA ?_;refine aB rfl<|oR 1 rfl<|rV (vN (min c.lat.length 64)) rfl<|oR 1 rfl<|rE 45<|aK<|fU (κ:=Nat) (λ k=>⟨aY [(1,.ptr 0 0),(2,.ptr 1 0),(3,.clo 82 [] []),(4,.osl 36 0 (min c.lat.length 64) false),(45,vN (min c.lat.length 64)),(46,vN k)],heapF [(0,.box [vI (aM c.mode 0 2),vI (aM c.width 1 2),vI (aM c.rob 2 8),vI (aM c.queue 1 4),vI (aM c.stores 1 4),vI (aM c.slots 2 6),vI 2,vI (aM c.ways 1 2),.sl 1 (c.lat.map dD) cl,vB c.tables,.sl 1 (c.tape.map cN) ct]),(1,.box [vI 0,vI 0,vI 0,vI 0,vI 0,vI 0,vI 0,vI 0,.sl 0 ([]) true,vB false,.sl 0 ([]) true]),(36,.arr (wV c k) 1)],45⟩) (λ k=>k≤min c.lat.length 64) (λ k=>min c.lat.length 64 - k) 0 (λ s=>s) (Weak.of_lists (λ s=>s) wT wH rfl) (SV _) ?_;intro k hk;have hkB:k≤1000000:=by omega
  refine aA<|aB rfl<|rW (vB (decide (k<(min c.lat.length 64)))) rfl (okB (ltN _ _))<|rE 46<|aA ?_;refine aE rfl (λ h2=>?_) (λ h2=>?_)
  ·refine aF<|aA<|aK<|aA<|aB rfl<|oR 2 rfl<|rE 48<|aB rfl<|oR 3 rfl ?_;have hkl:k<(c.lat.take 64).length:=by have:=of_decide_eq_true h2;rw[Tg];omega
   obtain⟨x,hx⟩:∃ x,(c.lat.take 64)[k]?=some x:=⟨_,SS hkl⟩;have hxk:(wV c k)[0+k]?=some [.v (.int .i64 x)]:=by rw[Tz];exact Gn hx
   refine nW (.ptr2 36 (0+k) 0) rfl rfl (⟨SZ _,by show (k:Int)<((min c.lat.length 64:Nat):Int);have:=of_decide_eq_true h2;omega⟩)<|bP (args:=[.ptr2 36 (0+k) 0,vI 1,vI 8]) (d:=53) _ rfl rfl rfl (Gl (rows:=wV c k) (rows':=wV c (k+1)) (k:=0+k) (n:=x) hxk ((Tz k).symm ▸ Gp hx) rfl rfl) ?_;rintro _ _ ⟨rfl,rfl⟩;refine rE 53<|aB rfl ?_;have b1:k+1≤1000001:=SY hkB (SU 1);refine rW (vN (k+1)) rfl (okI (aQ b1 rfl))<|oR 1 rfl<|rE 55 ?_;refine⟨k+1,λ s=>s,Weak.of_lists _ wT wH rfl,by have:=of_decide_eq_true h2;omega,by have:=of_decide_eq_true h2;show min c.lat.length 64 - (k+1)<min c.lat.length 64 - k;omega⟩
  ·refine bU<|aA<|aB rfl<|oR 2 rfl<|rW (vN c.tape.length) rfl (aN cN c.tape)<|rW (vN (min c.tape.length 64)) rfl (zH c.tape.length 64)<|rFx (x:=.osl 50 0 (min c.tape.length 64) false) (h':=upd _ 50 (some (.arr (List.replicate (min c.tape.length 64) [.v (.int .u32 0)]) 1))) rfl rfl (rfl) (⟨SZ _,Vi _,by show (((min c.tape.length 64):Nat):Int)≤1000000;have:=(Tb (Un c.tape.length 64) (SU 64));omega⟩)<|oR 1 rfl<|rE 52<|aA<|aB rfl<|oR 3 rfl<|rFx (x:=vI ((min (c.tape.map cN).length (min c.tape.length 64):Nat):Int)) (h':=upd _ 50 (some (.arr ((c.tape.take 64).map cN) 1))) rfl rfl (Ct (uM cN c.tape [.v (.int .u32 0)] _ rfl)) (⟨by simp,trivial⟩)<|rE 56<|aA<|aB rfl ?_;refine oR 3 rfl<|rSt rfl<|oR 1 rfl<|rSt rfl<|rE 62<|aA<|aB rfl<|oR 1 rfl<|rSt rfl<|rE 64<|bC ?_;have hk2:(c.lat.take 64).length≤k:=by rw[Tg];have:=SW h2;omega
   have hll:=Gq c k (by rw[Tg];omega);have e1:List.take (min c.lat.length 64) (List.drop 0 (wV c k))=(aP c).lat.map dD:=by rw[TJ,Te (by rw[hll,Tg];omega),Gm c k hk2]
   have e2:List.take (min c.tape.length 64) (List.drop 0 ((c.tape.take 64).map cN))=(aP c).tape.map cN:=by rw[TJ,Te (by rw[Td,Tg];omega)];rfl
   have e3:(aP c).sets=2:=if_pos (by simpa using h1);refine aL rfl (r4 (r4 ⟨by show 0+min c.lat.length 64≤(wV c k).length;rw[hll,Tg];omega,trivial,by show 0+min c.tape.length 64≤((c.tape.take 64).map cN).length;rw[Td,Tg];omega,trivial⟩)) rfl ?_;show AV.agg [vI (aM c.mode 0 2),vI (aM c.width 1 2),vI (aM c.rob 2 8),vI (aM c.queue 1 4),vI (aM c.stores 1 4),vI (aM c.slots 2 6),vI 2,vI (aM c.ways 1 2),.sl 1 (List.take (min c.lat.length 64) (List.drop 0 (wV c k))) false,vB c.tables,.sl 1 (List.take (min c.tape.length 64) (List.drop 0 ((c.tape.take 64).map cN))) false]=AV.agg (cfL (aP c) false false);rw[e1,e2];show _=AV.agg [vI (aP c).mode,vI (aP c).width,vI (aP c).rob,vI (aP c).queue,vI (aP c).stores,vI (aP c).slots,vI (aP c).sets,vI (aP c).ways,.sl 1 ((aP c).lat.map dD) false,vB (aP c).tables,.sl 1 ((aP c).tape.map cN) false];rw[e3];rfl
 ·refine aF<|aA<|aB rfl<|oR 2 rfl<|bP (args:=[.ptr 0 7,vI 1,vI 2]) (d:=34) _ rfl rfl rfl (pS (cells:=[vI (aM c.mode 0 2),vI (aM c.width 1 2),vI (aM c.rob 2 8),vI (aM c.queue 1 4),vI (aM c.stores 1 4),vI (aM c.slots 2 6),vI (aM c.sets 1 4),vI c.ways,.sl 1 (c.lat.map dD) cl,vB c.tables,.sl 1 (c.tape.map cN) ct]) (cells':=[vI (aM c.mode 0 2),vI (aM c.width 1 2),vI (aM c.rob 2 8),vI (aM c.queue 1 4),vI (aM c.stores 1 4),vI (aM c.slots 2 6),vI (aM c.sets 1 4),vI (aM c.ways 1 2),.sl 1 (c.lat.map dD) cl,vB c.tables,.sl 1 (c.tape.map cN) ct]) rfl rfl rfl rfl rfl rfl rfl) ?_;rintro _ _ ⟨rfl,rfl⟩;refine rE 30<|aA<|aB rfl<|oR 2 rfl<|rW (vN c.lat.length) rfl (aN dD c.lat)<|rW (vN (min c.lat.length 64)) rfl (zH c.lat.length 64)<|rFx (x:=.osl 34 0 (min c.lat.length 64) false) (h':=upd _ 34 (some (.arr (List.replicate (min c.lat.length 64) [vI 0]) 1))) rfl rfl (rfl) (⟨SZ _,Vi _,by show (((min c.lat.length 64):Nat):Int)≤1000000;have:=(Tb (Un c.lat.length 64) (SU 64));omega⟩)<|oR 1 rfl<|rE 36<|aA<|aB rfl<|oR 3 rfl<|rFx (x:=vI ((min (c.lat.map dD).length (min c.lat.length 64):Nat):Int)) (h':=upd _ 34 (some (.arr (wV c 0) 1))) rfl rfl (Ct (uM dD c.lat [.v (.int .i64 0)] _ rfl)) (⟨by simp,trivial⟩)<|rE 40<|aA<|aA ?_;refine aB rfl<|oR 1 rfl<|rV (vN (min c.lat.length 64)) rfl<|oR 1 rfl<|rE 43<|aK<|fU (κ:=Nat) (λ k=>⟨aY [(1,.ptr 0 0),(2,.ptr 1 0),(3,.clo 82 [] []),(4,.osl 34 0 (min c.lat.length 64) false),(45,vN (min c.lat.length 64)),(46,vN k)],heapF [(0,.box [vI (aM c.mode 0 2),vI (aM c.width 1 2),vI (aM c.rob 2 8),vI (aM c.queue 1 4),vI (aM c.stores 1 4),vI (aM c.slots 2 6),vI (aM c.sets 1 4),vI (aM c.ways 1 2),.sl 1 (c.lat.map dD) cl,vB c.tables,.sl 1 (c.tape.map cN) ct]),(1,.box [vI 0,vI 0,vI 0,vI 0,vI 0,vI 0,vI 0,vI 0,.sl 0 ([]) true,vB false,.sl 0 ([]) true]),(34,.arr (wV c k) 1)],43⟩) (λ k=>k≤min c.lat.length 64) (λ k=>min c.lat.length 64 - k) 0 (λ s=>s) (Weak.of_lists (λ s=>s) wT wH rfl) (SV _) ?_;intro k hk;have hkB:k≤1000000:=by omega
  refine aA<|aB rfl<|rW (vB (decide (k<(min c.lat.length 64)))) rfl (okB (ltN _ _))<|rE 44<|aA ?_;refine aE rfl (λ h3=>?_) (λ h3=>?_)
  ·refine aF<|aA<|aK<|aA<|aB rfl<|oR 2 rfl<|rE 46<|aB rfl<|oR 3 rfl ?_;have hkl:k<(c.lat.take 64).length:=by have:=of_decide_eq_true h3;rw[Tg];omega
   obtain⟨x,hx⟩:∃ x,(c.lat.take 64)[k]?=some x:=⟨_,SS hkl⟩;have hxk:(wV c k)[0+k]?=some [.v (.int .i64 x)]:=by rw[Tz];exact Gn hx
   refine nW (.ptr2 34 (0+k) 0) rfl rfl (⟨SZ _,by show (k:Int)<((min c.lat.length 64:Nat):Int);have:=of_decide_eq_true h3;omega⟩)<|bP (args:=[.ptr2 34 (0+k) 0,vI 1,vI 8]) (d:=53) _ rfl rfl rfl (Gl (rows:=wV c k) (rows':=wV c (k+1)) (k:=0+k) (n:=x) hxk ((Tz k).symm ▸ Gp hx) rfl rfl) ?_;rintro _ _ ⟨rfl,rfl⟩;refine rE 51<|aB rfl ?_;have b2:k+1≤1000001:=SY hkB (SU 1);refine rW (vN (k+1)) rfl (okI (aQ b2 rfl))<|oR 1 rfl<|rE 53 ?_;refine⟨k+1,λ s=>s,Weak.of_lists _ wT wH rfl,by have:=of_decide_eq_true h3;omega,by have:=of_decide_eq_true h3;show min c.lat.length 64 - (k+1)<min c.lat.length 64 - k;omega⟩
  ·refine bU<|aA<|aB rfl<|oR 2 rfl<|rW (vN c.tape.length) rfl (aN cN c.tape)<|rW (vN (min c.tape.length 64)) rfl (zH c.tape.length 64)<|rFx (x:=.osl 48 0 (min c.tape.length 64) false) (h':=upd _ 48 (some (.arr (List.replicate (min c.tape.length 64) [.v (.int .u32 0)]) 1))) rfl rfl (rfl) (⟨SZ _,Vi _,by show (((min c.tape.length 64):Nat):Int)≤1000000;have:=(Tb (Un c.tape.length 64) (SU 64));omega⟩)<|oR 1 rfl<|rE 50<|aA<|aB rfl<|oR 3 rfl<|rFx (x:=vI ((min (c.tape.map cN).length (min c.tape.length 64):Nat):Int)) (h':=upd _ 48 (some (.arr ((c.tape.take 64).map cN) 1))) rfl rfl (Ct (uM cN c.tape [.v (.int .u32 0)] _ rfl)) (⟨by simp,trivial⟩)<|rE 54<|aA<|aB rfl ?_;refine oR 3 rfl<|rSt rfl<|oR 1 rfl<|rSt rfl<|rE 60<|aA<|aB rfl<|oR 1 rfl<|rSt rfl<|rE 62<|bC ?_;have hk2:(c.lat.take 64).length≤k:=by rw[Tg];have:=SW h3;omega
   have hll:=Gq c k (by rw[Tg];omega);have e1:List.take (min c.lat.length 64) (List.drop 0 (wV c k))=(aP c).lat.map dD:=by rw[TJ,Te (by rw[hll,Tg];omega),Gm c k hk2]
   have e2:List.take (min c.tape.length 64) (List.drop 0 ((c.tape.take 64).map cN))=(aP c).tape.map cN:=by rw[TJ,Te (by rw[Td,Tg];omega)];rfl
   have e3:(aP c).sets=aM c.sets 1 4:=if_neg (by simpa using h1);refine aL rfl (r4 (r4 ⟨by show 0+min c.lat.length 64≤(wV c k).length;rw[hll,Tg];omega,trivial,by show 0+min c.tape.length 64≤((c.tape.take 64).map cN).length;rw[Td,Tg];omega,trivial⟩)) rfl ?_;show AV.agg [vI (aM c.mode 0 2),vI (aM c.width 1 2),vI (aM c.rob 2 8),vI (aM c.queue 1 4),vI (aM c.stores 1 4),vI (aM c.slots 2 6),vI (aM c.sets 1 4),vI (aM c.ways 1 2),.sl 1 (List.take (min c.lat.length 64) (List.drop 0 (wV c k))) false,vB c.tables,.sl 1 (List.take (min c.tape.length 64) (List.drop 0 ((c.tape.take 64).map cN))) false]=AV.agg (cfL (aP c) false false);rw[e1,e2];show _=AV.agg [vI (aP c).mode,vI (aP c).width,vI (aP c).rob,vI (aP c).queue,vI (aP c).stores,vI (aP c).slots,vI (aP c).sets,vI (aP c).ways,.sl 1 ((aP c).lat.map dD) false,vB (aP c).tables,.sl 1 ((aP c).tape.map cN) false];rw[e3];rfl
abbrev wyL(x:Wy):List AV:=[.v (.int .u32 (x.line:Int)),.v (.bool x.dirty),.v (.string x.data)]
abbrev Si(s:List Wy):AV:=.sl 3 (s.map wyL) false
abbrev aR(s:List Wy):List AV:=[Si s]
abbrev caL(c:Ca)(k:Bool):List AV:=[.v (.int .i64 c.ways),.sl 1 (c.sets.map aR) k]
abbrev rqL(x:Req):List AV:=[.v (.int .i64 x.kind),.v (.int .u32 (x.line:Int)),.v (.int .i64 x.left),.v (.string x.data)]
def Sj(o:Option Nat):AV:=.tup [vN (o.getD 0),vB o.isSome]
structure Wy.ok(x:Wy):Prop where
 line:x.line≤4294967295
structure Ca.ok(c:Ca):Prop where
 sets:c.sets.length≤9223372036854775807
 set:∀ s∈c.sets,s.length≤9223372036854775807∧∀ x∈s,x.ok
theorem bI{a:Nat}(h:a≤4294967295):lineOf a≤4294967295:=by unfold lineOf;omega
theorem Sk{a b:Nat}(h:a=b):AV.v (.int .u32 (a:Int))=.v (.int .u32 (b:Int)):=by rw[h]
theorem Ri{a b:Nat}(h:a=b):AV.v (.int .i64 (a:Int))=.v (.int .i64 (b:Int)):=by rw[h]
theorem cX{α:Type}{f:α→List AV}{l:List α}{k:Nat}{x:α}(h:l[k]?=some x):(l.map f)[k]?=some (f x):=by rw[Tq,h];rfl
theorem iS(a:Nat)(ha:a≤4294967295):aT C0 92 [vU a] (vU (lineOf a)):=by
 refine aT.intro c0Ok Tryz.func92 rfl rfl (by kernel_rfl) rfl<|aA<|aB rfl<|oR 1 rfl<|rE 1<|aA<|aB rfl<|oR 2 rfl ?_;have b1:a % 16≤15:=Ti (Tp _ (by decide));refine nW (vU (a % 16)) rfl rfl (by decide) ?_;have b2:(a+4294967296 - (a % 16)) % 4294967296≤4294967295:=Ti (Tp _ (by decide));refine rW (vU ((a+4294967296 - (a % 16)) % 4294967296)) rfl (okI (MR b1 rfl))<|oR 1 rfl<|rE 6<|bC ?_;exact fT rfl (Sk (by unfold lineOf;omega))
theorem Nn(c:Ca)(line:Nat)(ck:Bool)(h0:0<c.sets.length)(hl:c.sets.length≤1000000)(hline:line≤4294967295):aT C0 146 [.agg (caL c ck),vU line] (vN (pT c line)):=by
 refine aT.intro c0Ok Tryz.func146 rfl rfl (by kernel_rfl) rfl<|aA<|aB rfl<|rAl 0 rfl rfl<|oR 1 rfl<|rE 2<|aA<|aB rfl<|oR 1 rfl ?_;have b1:line / 16≤268435455:=Vg hline;refine nW (vU (line / 16)) rfl (GN (CT b1 rfl)) (by decide)<|oR 2 rfl<|rW (vN c.sets.length) rfl (aN aR c.sets)<|rW (vU c.sets.length) rfl (okI (CT hl rfl)) ?_;have b2:(line / 16) % c.sets.length≤268435455:=Tb (VP _ _) b1;refine nW (vU ((line / 16) % c.sets.length)) rfl rfl omT<|rW (vN ((line / 16) % c.sets.length)) rfl (okI (aQ b2 rfl))<|oR 1 rfl<|rE 11<|bC ?_;exact fT rfl rfl
theorem Ht{s:List Wy}{line k:Nat}{x:Wy}(hx:s[k]?=some x)(hn: ¬ x.line=line)(h:dU s line=(dU (s.drop k) line).map (· +k)):dU s line=(dU (s.drop (k+1)) line).map (· +(k+1)):=by
 obtain⟨hk,hx'⟩:=WB.1 hx;rw[h,Uf hk,hx'];simp only[dU,if_neg hn,Option.map_map];congr 1;funext i;show i+1+k=i+(k+1);omega
theorem Hu{s:List Wy}{line k:Nat}{x:Wy}(hx:s[k]?=some x)(hn:x.line=line)(h:dU s line=(dU (s.drop k) line).map (· +k)):dU s line=some k:=by
 obtain⟨hk,hx'⟩:=WB.1 hx;rw[h,Uf hk,hx'];simp[dU,hn]
theorem JV{s:List Wy}{line k:Nat}(hk:s.length≤k)(h:dU s line=(dU (s.drop k) line).map (· +k)):dU s line=none:=by
 rw[h,Ug hk];rfl
theorem Np(s:List Wy)(line:Nat)(ck:Bool)(hs:s.length≤1000000)(ho:∀ x∈s,x.ok)(hline:line≤4294967295):aT C0 147 [.sl 3 (s.map wyL) ck,vU line] (Sj (dU s line)):=by
 refine aT.intro c0Ok Tryz.func147 rfl rfl (by kernel_rfl) rfl<|aA<|aB rfl<|oR 2 rfl<|rE 2<|aA<|aA<|aB rfl<|oR 1 rfl<|rW (vN s.length) rfl (aN wyL s)<|oR 1 rfl<|rE 5<|aK<|fU (κ:=Nat) (λ k=>⟨aY [(1,vU line),(8,.sl 3 (s.map wyL) ck),(9,vN s.length),(10,vN k)],heapF [],5⟩) (λ k=>k≤s.length∧dU s line=(dU (s.drop k) line).map (· +k)) (λ k=>s.length - k) 0 (λ s=>s) (Weak.of_lists (λ s=>s) wT trivial rfl) (⟨SV _,by simp⟩) ?_;intro k hk;have hkB:k≤1000000:=by have:=hk.1;omega
 refine aA<|aB rfl<|rW (vB (decide (k<s.length))) rfl (okB (ltN _ _))<|rE 6<|aA ?_;refine aE rfl (λ h1=>?_) (λ h1=>?_)
 ·refine aF<|aA<|aK<|aA<|aB rfl<|oR 1 rfl ?_;obtain⟨x,hx⟩:∃ x,s[k]?=some x:=⟨_,SS (of_decide_eq_true h1)⟩;have hxo:=ho x (ST hx);refine rIx (wyL x) (.dp 3 0 (wyL x)) rfl rfl (cX hx) rfl<|oR 1 rfl<|rAl 9 rfl rfl<|oR 1 rfl<|rSt rfl<|rE 12<|aA<|aB rfl<|oR 3 rfl<|rW (vB (x.line==line)) rfl (okB (eqN _ _))<|rE 16 ?_;refine aE rfl (λ h2=>?_) (λ h2=>?_)
  ·refine aA<|aB rfl<|oR 3 rfl<|rE 19<|bC ?_;exact fT rfl (by rw[Hu hx (by simpa using h2) hk.2];rfl)
  ·refine aF<|aB rfl ?_;have b1:k+1≤1000001:=SY hkB (SU 1);refine rW (vN (k+1)) rfl (okI (aQ b1 rfl))<|oR 1 rfl<|rE 18 ?_;refine⟨k+1,λ s=>s,Weak.of_lists _ wT trivial rfl,⟨of_decide_eq_true h1,Ht hx (by simpa using h2) hk.2⟩,by have:=of_decide_eq_true h1;show s.length - (k+1)<s.length - k;omega⟩
 ·refine bU<|aA<|aB rfl<|oR 2 rfl<|rE 8<|bC ?_;exact fT rfl (by rw[JV (by have:=SW h1;omega) hk.2];rfl)
def An(c:Ca)(k:Nat)(s:List Wy)(i:Nat)(x:Wy):Prop:=lineOf x.line=x.line∧pT c x.line=k∧(x.data.size=0∨x.data.size=16)∧dU (s.take i) x.line=none
theorem fD(c:Ca)(k:Nat)(s:List Wy):nO c k s=true↔(s.length:Int)≤c.ways∧∀ i x,s[i]?=some x→An c k s i x:=by
 unfold nO An;simp only[Tc,Tk,Wl,VH];refine and_congr_right λ _=>⟨λ h i x hx=>?_,λ h i hi=>?_⟩
 ·have:=h i (WB.1 hx).1;rw[hx]at this;simp only[Tc,TU,Tk,UG]at this;exact⟨this.1.1.1,this.1.1.2,this.1.2,this.2⟩
 ·rw[SS hi];have:=h i _ (SS hi);simp only[Tc,TU,Tk,UG];exact⟨⟨⟨this.1,this.2.1⟩,this.2.2.1⟩,this.2.2.2⟩
theorem fG(c:Ca):cM c=true↔((c.sets.length=1∨c.sets.length=2∨c.sets.length=4)∧(c.ways=1∨c.ways=2))∧∀ k s,c.sets[k]?=some s→nO c k s=true:=by
 unfold cM;simp only[Tc,TU,Tk,Wl,VH];refine and_congr ?_ ⟨λ h k s hs=>?_,λ h k hk=>?_⟩
 ·rw[or_assoc]
 ·have:=h k (WB.1 hs).1
  rwa [hs]at this
 ·rw[SS hk];exact h k _ (SS hk)
theorem oT{c:Ca}(h: ¬ cM c=true):cM c=false:=by simpa using h
theorem sK{n:Nat}{w:Int}(h:aO (aO (aO (n != 1) (n != 2) false) (n != 4) false) true (aO (w != 1) (w != 2) false)=false):(n=1∨n=2∨n=4)∧(w=1∨w=2):=by
 simp only[c2]at h;constructor
 ·by_cases h1:n=1<;>by_cases h2:n=2<;>by_cases h4:n=4<;>simp_all
 ·by_cases h1:w=1
  ·exact .inl h1
  ·by_cases h2:w=2
   ·exact .inr h2
   ·simp[h1,h2]at h;omega
theorem DP{n:Nat}{w:Int}(h:aO (aO (aO (n != 1) (n != 2) false) (n != 4) false) true (aO (w != 1) (w != 2) false)=true): ¬ ((n=1∨n=2∨n=4)∧(w=1∨w=2)):=by
 rintro ⟨rfl|rfl|rfl,rfl|rfl⟩<;>simp[aO]at h
theorem OI{c:Ca}{k j:Nat}{s:List Wy}{x:Wy}(h1:aO ((lineOf x.line) != x.line) true ((pT c x.line) != k)=false)(h2:aO ((x.data.size:Int) != 0) ((x.data.size:Int) != 16) false=false)(h3:(dU (s.take j) x.line).isSome=false):An c k s j x:=by
 simp only[c2]at h1 h2;refine⟨?_,?_,?_,by simpa using h3⟩
 ·by_cases h:lineOf x.line=x.line<;>simp_all
 ·by_cases h:pT c x.line=k<;>simp_all
 ·by_cases h:x.data.size=0
  ·exact .inl h
  ·right;simp_all;omega
theorem Ml{c:Ca}{k j:Nat}{s:List Wy}{x:Wy}(h:aO ((lineOf x.line) != x.line) true ((pT c x.line) != k)=true): ¬ An c k s j x:=λ q=>by
 rw[q.1,q.2.1]at h;simp[aO]at h
theorem Mm{c:Ca}{k j:Nat}{s:List Wy}{x:Wy}(h:aO ((x.data.size:Int) != 0) ((x.data.size:Int) != 16) false=true): ¬ An c k s j x:=λ q=>by
 rcases q.2.2.1 with e|e<;>rw[e]at h<;>simp[aO]at h
theorem Mn{c:Ca}{k j:Nat}{s:List Wy}{x:Wy}(h:(dU (s.take j) x.line).isSome=true): ¬ An c k s j x:=λ q=>by
 rw[q.2.2.2]at h;cases h
theorem Hv{c:Ca}{k:Nat}{s:List Wy}(hs:c.sets[k]?=some s)(h:nO c k s=true)(hk:∀ i s,i<k→c.sets[i]?=some s→nO c i s=true):∀ i s,i<k+1→c.sets[i]?=some s→nO c i s=true:=λ i s' hi hs'=>by
 by_cases e:i=k
 ·subst e;rw[hs]at hs';injection hs' with e;exact e ▸ h
 ·exact hk i s' omT hs'
theorem Mo{c:Ca}{k j:Nat}{s:List Wy}{x:Wy}(hx:s[j]?=some x)(h:An c k s j x)(hj:∀ i x,i<j→s[i]?=some x→An c k s i x):∀ i x,i<j+1→s[i]?=some x→An c k s i x:=λ i x' hi hx'=>by
 by_cases e:i=j
 ·subst e;rw[hx]at hx';injection hx' with e;exact e ▸ h
 ·exact hj i x' omT hx'
theorem uL(c:Ca)(ck:Bool)(hok:c.ok):aT C0 85 [.agg (caL c ck)] (vB (cM c)):=by
 refine aT.intro c0Ok Tryz.func85 rfl rfl (by kernel_rfl) rfl<|aA<|aB rfl<|rAl 0 rfl rfl<|oR 1 rfl<|rE 2<|aA<|aB rfl<|oR 2 rfl<|rW (vN c.sets.length) rfl (aN aR c.sets)<|oR 1 rfl<|rE 6<|aA<|aA<|aB rfl<|oR 1 rfl ?_;refine rW (vB (c.sets.length != 1)) rfl (okB (neN _ _))<|oR 1 rfl<|gN rfl<|gBS (x:=vB (c.sets.length != 2)) rfl id (okB (neN _ _))<|aG rfl rfl rfl (λ h=>h)<|oR 1 rfl<|gN rfl<|gBS (x:=vB (c.sets.length != 4)) rfl id (okB (neN _ _))<|aG rfl rfl rfl (λ h=>h)<|oR 1 rfl<|gN rfl<|gS rfl id<|gBS (x:=vB (c.ways != 1)) rfl id rfl<|gS rfl id<|gN rfl<|gS rfl id ?_;refine gBS (x:=vB (c.ways != 2)) rfl id rfl<|nG (x:=vB (aO (c.ways != 1) (c.ways != 2) false)) (g:= !(aO (aO (c.sets.length != 1) (c.sets.length != 2) false) (c.sets.length != 4) false)) rfl rfl rfl rfl (λ h=>h) rfl rfl (λ hg hc=>by first|(rw[hg,hc];rfl)|simp_all)<|aG rfl rfl rfl (by simp)<|rE 26 ?_;refine aE rfl (λ h1=>?_) (λ h1=>?_)
 ·refine aA<|aB rfl<|oR 1 rfl<|rE 27<|bC ?_;exact fB (x:=false) rfl (oT (c:=c) (λ q=>DP h1 ((fG c).1 q).1)).symm
 ·refine aF<|aA<|aA<|aB rfl<|oR 2 rfl<|rW (vN c.sets.length) rfl (aN aR c.sets)<|oR 1 rfl<|rE 30<|aK<|fU (κ:=Nat) (λ k=>⟨aY [(1,.ptr 0 0),(3,vN c.sets.length),(34,.sl 1 (c.sets.map aR) ck),(35,vN c.sets.length),(36,vN k)],heapF [(0,.box [vI c.ways,.sl 1 (c.sets.map aR) ck])],30⟩) (λ k=>k≤c.sets.length∧∀ i s,i<k→c.sets[i]?=some s→nO c i s=true) (λ k=>c.sets.length - k) 0 (λ s=>s) (Weak.of_lists (λ s=>s) wT wH rfl) (⟨SV _,λ i s h=>absurd h (Ud i)⟩) ?_;intro k hk;have hkB:k≤1000000:=by have:=hk.1;have:=(sK h1).1;omega
  refine aA<|aB rfl<|rW (vB (decide (k<c.sets.length))) rfl (okB (ltN _ _))<|rE 31<|aA ?_;refine aE rfl (λ h2=>?_) (λ h2=>?_)
  ·refine aF<|aA<|aK<|aA<|aB rfl<|oR 1 rfl ?_;obtain⟨s,hs⟩:∃ s,c.sets[k]?=some s:=⟨_,SS (of_decide_eq_true h2)⟩;have hso:=hok.set s (ST hs);refine rIx (aR s) (.dp 1 0 (aR s)) rfl rfl (cX hs) rfl<|oR 3 rfl<|rE 36<|aA<|aA<|aB rfl<|oR 1 rfl<|rW (vN s.length) rfl (aN wyL s)<|oR 2 rfl<|rV (vB (decide (((s.length:Nat):Int)>c.ways))) rfl<|rE 41 ?_;refine aE rfl (λ h3=>?_) (λ h3=>?_)
   ·refine aA<|aB rfl<|oR 1 rfl<|rE 42<|bC ?_;exact fB (x:=false) rfl (oT (c:=c) (λ q=>absurd ((fD c k s).1 (((fG c).1 q).2 k s hs)).1 (by have:=of_decide_eq_true h3;omega))).symm
   ·refine aF<|aA<|aB rfl<|oR 1 rfl<|rW (vN s.length) rfl (aN wyL s)<|oR 1 rfl<|rE 44<|aK<|fU (κ:=Nat) (λ j=>⟨aY [(1,.ptr 0 0),(3,vN c.sets.length),(34,.sl 1 (c.sets.map aR) ck),(35,vN c.sets.length),(36,vN k),(4,vN k),(5,.sl 3 (s.map wyL) false),(46,.sl 3 (s.map wyL) false),(47,vN s.length),(48,vN j)],heapF [(0,.box [vI c.ways,.sl 1 (c.sets.map aR) ck])],44⟩) (λ j=>j≤s.length∧∀ i x,i<j→s[i]?=some x→An c k s i x) (λ j=>s.length - j) 0 (λ s=>s) (Weak.of_lists (λ s=>s) wT wH rfl) (⟨SV _,λ i s h=>absurd h (Ud i)⟩) ?_;intro j hj;have hjB:j≤1000000:=by have:=hj.1;have:=(sK h1).2;have:=SW h3;omega
    refine aA<|aB rfl<|rW (vB (decide (j<s.length))) rfl (okB (ltN _ _))<|rE 45<|aA ?_;refine aE rfl (λ h4=>?_) (λ h4=>?_)
    ·refine aF<|aA<|aK<|aA<|aB rfl<|oR 1 rfl ?_;obtain⟨x,hx⟩:∃ x,s[j]?=some x:=⟨_,SS (of_decide_eq_true h4)⟩;have hxo:=hso.2 x (ST hx);refine rIx (wyL x) (.dp 3 0 (wyL x)) rfl rfl (cX hx) rfl<|oR 1 rfl<|rAl 48 rfl rfl<|oR 1 rfl<|rSt rfl<|rE 51<|aA<|aA<|aB rfl<|oR 2 rfl<|rCi rfl (iS x.line hxo.line)<|oR 2 rfl<|rW (vB ((lineOf x.line) != x.line)) rfl (okB (neN _ _))<|oR 1 rfl<|gN rfl<|gN rfl ?_;refine gS rfl id<|dZ (args:=[.agg [vI c.ways,.sl 1 (c.sets.map aR) ck],vU x.line]) (x:=vN (pT c x.line)) (g:= !((lineOf x.line) != x.line)) rfl rfl rfl rfl (λ h=>by simp_all) rfl rfl rfl (.inl rfl) rfl (λ hg=>Nn c x.line ck (by have:=of_decide_eq_true h2;omega) (by have:=(sK h1).1;omega) hxo.line)<|gN rfl<|gBS (x:=vB ((pT c x.line) != k)) rfl (λ h=>by simp_all) (okB (neN _ _))<|aG rfl rfl rfl (by simp)<|rE 65 ?_;refine aE rfl (λ h5=>?_) (λ h5=>?_)
     ·refine aA<|aB rfl<|oR 1 rfl<|rE 66<|bC ?_;exact fB (x:=false) rfl (oT (c:=c) (λ q=>Ml h5 (((fD c k s).1 (((fG c).1 q).2 k s hs)).2 j x hx))).symm
     ·refine aF<|aA<|aA<|aB rfl<|oR 2 rfl<|rV (vI (x.data.size:Int)) rfl<|rV (vB ((x.data.size:Int) != 0)) rfl<|oR 1 rfl<|gN rfl<|gS rfl id<|gBS (x:=vI (x.data.size:Int)) rfl id rfl<|gBS (x:=vB ((x.data.size:Int) != 16)) rfl id rfl<|aG rfl rfl rfl (λ h=>h)<|rE 75 ?_;refine aE rfl (λ h6=>?_) (λ h6=>?_)
      ·refine aA<|aB rfl<|oR 1 rfl<|rE 76<|bC ?_;exact fB (x:=false) rfl (oT (c:=c) (λ q=>Mm h6 (((fD c k s).1 (((fG c).1 q).2 k s hs)).2 j x hx))).symm
      ·refine aF<|aA<|aB rfl<|oR 2 rfl<|nW (.sl 3 (List.drop 0 (List.take j (s.map wyL))) false) rfl rfl (⟨Vi _,SZ _,by show (j:Int)≤(((s.map wyL).length:Nat):Int);rw[Td];have:=of_decide_eq_true h4;omega⟩)<|oR 2 rfl<|rCl (x:=.tup [vN ((dU (s.take j) x.line).getD 0),vB ((dU (s.take j) x.line).isSome)]) rfl (.inl rfl) (by show aT C0 _ [.sl 3 (List.drop 0 (List.take j (s.map wyL))) false,_] _;rw[TJ, ←Uu];exact Np (s.take j) x.line false (by rw[Tg];omega) (λ y hy=>hso.2 y (TH hy)) hxo.line)<|oR 5 rfl<|rE 86<|aA<|aB rfl<|oR 1 rfl<|rE 87 ?_;refine aE rfl (λ h7=>?_) (λ h7=>?_)
       ·refine aA<|aB rfl<|oR 1 rfl<|rE 88<|bC ?_;exact fB (x:=false) rfl (oT (c:=c) (λ q=>Mn h7 (((fD c k s).1 (((fG c).1 q).2 k s hs)).2 j x hx))).symm
       ·refine aF<|aB rfl ?_;have b1:j+1≤1000001:=SY hjB (SU 1);refine rW (vN (j+1)) rfl (okI (aQ b1 rfl))<|oR 1 rfl<|rE 89 ?_;refine⟨j+1,λ s=>s,Weak.of_lists _ wT wH rfl,⟨of_decide_eq_true h4,Mo hx (OI h5 h6 h7) hj.2⟩,by have:=of_decide_eq_true h4;show s.length - (j+1)<s.length - j;omega⟩
    ·refine bU<|aB rfl ?_;have b2:k+1≤1000001:=SY hkB (SU 1);refine rW (vN (k+1)) rfl (okI (aQ b2 rfl))<|oR 1 rfl<|rE 47 ?_;refine⟨k+1,λ s=>s,Weak.of_lists _ wT wH rfl,⟨of_decide_eq_true h2,Hv hs ((fD c k s).2 ⟨by have:=SW h3;omega,λ i y hy=>hj.2 i y (by have:=(WB.1 hy).1;have:=SW h4;omega) hy⟩) hk.2⟩,by have:=of_decide_eq_true h2;show c.sets.length - (k+1)<c.sets.length - k;omega⟩
  ·refine bU<|aA<|aB rfl<|oR 1 rfl<|rE 32<|bC ?_;exact fB (x:=true) rfl ((fG c).2 ⟨sK h1,λ i s hs=>hk.2 i s (by have:=(WB.1 hs).1;have:=SW h2;omega) hs⟩).symm
def QD:AV:=.sl 0 [] true
theorem mN(rs:Nat)(c:Bool):Sub (.sl 0 [] true) (.sl rs [] c):=λ S w v h=>by
 cases h with
 |sl _ _ _ A c0 b o u hc hm hcl hrs hA hw h1 hr=>exact .sl rs [] c A c0 b o u hc hm (λ _=>hcl rfl) (λ _ h=>by cases h) (λ h=>absurd h (UE 0)) (λ i row j a h=>by simp at h) h1 λ i row j a h=>by simp at h
end Go.Proofs.YtlhofpglndhfaaaGreatDoor
