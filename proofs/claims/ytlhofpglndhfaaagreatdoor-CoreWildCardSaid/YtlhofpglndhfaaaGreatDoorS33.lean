/- Joined texts. -/
import Derived.Test.YtlhofpglndhfaaaGreatDoorS1
import Derived.Test.YtlhofpglndhfaaaGreatDoorS31
import Derived.Test.YtlhofpglndhfaaaGreatDoorS32
set_option linter.unusedVariables false
set_option linter.unusedSimpArgs false
namespace Go.Proofs.YtlhofpglndhfaaaGreatDoor
open Go.RowKit
abbrev eJ(n:Nat):List AV:=[.v (.int .u32 (n:Int))]
theorem uU:∀ (l:List UInt8),iG (l.map λ b=>[.v (.int .u8 (b.toNat:Int))])=some l
 |[]=>rfl
 |b::l=>by
  simp only[iW,iG,uU l];simp
theorem eW{C:Ctx}{fn:Func}{r:AV}{st:ASt}{rs:List AV}(h1:resA C st fn.results.toList=some rs)(h2:jG st.h (Cz rs))(h3:eM (uJ st.h (Cz rs))=true)(h4:uJ st.h (Cz rs)=r):Sg C fn r st:=FG h1 h2 h3 h4
theorem fT{C:Ctx}{fn:Func}{r:AV}{st:ASt}{rs:List AV}(h1:resA C st fn.results.toList=some rs)(h4:uJ st.h (Cz rs)=r)(h2:jG st.h (Cz rs):=by exact trivial)(h3:eM (uJ st.h (Cz rs))=true:=by exact rfl):Sg C fn r st:=eW h1 h2 h3 h4
set_option maxRecDepth 100000 in
set_option maxHeartbeats 4000000 in
theorem Fw(i:SI):bY C0 100 [siA i] (.tup [.v (.int .i64 i.rs1),.v (.int .i64 i.rs2)]):=by
 refine bY.intro c0Ok Tryz.func100 rfl rfl (by kernel_rfl) rfl ?_;refine aE ?_;refine aG rfl ?_;refine rFx (d:=1) (x:=.ptr 0 0) (h':=upd _ 0 (some (.box [.v (.int .i64 i.op),.v (.int .i64 i.rd),.v (.int .i64 i.rs1),.v (.int .i64 i.rs2),.v (.int .u32 ((i.imm:Nat):Int))]))) rfl rfl (rfl) (trivial) ?_;refine rOk (d:=2) (x:=.v (.int .i64 0)) rfl rfl rfl ?_;refine rOk (d:=3) (x:=.v (.int .i64 0)) rfl rfl rfl ?_;refine JE (n':=3) rfl ?_;refine aE ?_;refine aG rfl ?_;refine rOk (d:=4) (x:=.ptr 0 2) rfl rfl rfl ?_;refine rOk (d:=5) (x:=.v (.int .i64 i.rs1)) rfl rfl rfl ?_;refine rOk (d:=6) (x:=.ptr 0 3) rfl rfl rfl ?_;refine rOk (d:=7) (x:=.v (.int .i64 i.rs2)) rfl rfl rfl ?_;refine rOk (d:=2) (x:=.v (.int .i64 i.rs1)) rfl rfl rfl ?_;refine rOk (d:=3) (x:=.v (.int .i64 i.rs2)) rfl rfl rfl ?_;refine JE (n':=9) rfl ?_;refine cT ?_;exact FG rfl trivial rfl rfl
theorem RB{prog:List Nat}{pc:Nat}(h1:pc % 4=0)(h2:pc / 4<prog.length):∃ x,fetchP prog pc=some x∧prog[((pc / 4:Nat):Int).toNat]?=some x:=by
 refine⟨prog[pc / 4],?_,?_⟩
 ·unfold fetchP;rw[if_pos h1,aA h2]
 ·rw[Int.toNat_natCast,aA h2]
theorem RC{prog:List Nat}{pc:Nat}(h:pc % 4≠0∨prog.length≤pc / 4):fetchP prog pc=none:=by
 unfold fetchP;split
 ·exact bR (by omega)
 ·rfl
theorem yJ(a:Nat):up4 a≤4294967295:=by unfold up4;omega
theorem Uh{n:Nat}(h:n≤1000000):IntKind.wrap .u64 ((n:Int))=(n:Int):=by
 simp only[IntKind.wrap,IntKind.signed,IntKind.bits];simp;omega
set_option maxRecDepth 100000 in
set_option maxHeartbeats 4000000 in
theorem Po(prog:List Nat)(pc:Nat)(clip:Bool)(hp:∀ x∈prog,x≤4294967295)(hl:prog.length≤1000000)(hpc:pc≤4294967295):bY C0 113 [.sl 1 (prog.map eJ) clip,.v (.int .u32 (pc:Int))] (.tup [.v (.int .u32 (fetchW prog pc:Int)),.v (.bool (fetchP prog pc).isSome)]):=by
 refine bY.intro c0Ok Tryz.func113 rfl rfl (by kernel_rfl) rfl ?_;refine aE ?_;refine aG rfl ?_;refine rOk (d:=4) (x:=.v (.int .u32 0)) rfl rfl rfl ?_;refine rOk (d:=5) (x:=.v (.bool false)) rfl rfl rfl ?_;refine JE (n':=2) rfl ?_;refine aE ?_;refine aE ?_;refine aG rfl ?_;refine rOk (d:=6) (x:=.v (.int .u32 (pc:Int))) rfl rfl rfl ?_;have b1:pc % 4≤3:=aT (bG _ (by decide));refine cH (d:=7) (x:=.v (.int .u32 ((pc % 4:Nat):Int))) rfl rfl rfl (by decide) ?_;refine rOk (d:=8) (x:=.v (.bool ((pc % 4) != 0))) rfl rfl (okB (neN _ _)) ?_;refine rOk (d:=9) (x:=.v (.bool ((pc % 4) != 0))) rfl rfl rfl ?_;refine gOk (d:=10) (x:=.v (.int .u32 (pc:Int))) (g:= !((pc % 4) != 0)) rfl rfl rfl rfl rfl rfl ?_;have b2:pc / 4≤1073741823:=kC hpc;refine vK (d:=11) (x:=.v (.int .u32 ((pc / 4:Nat):Int))) (g:= !((pc % 4) != 0)) rfl rfl rfl rfl (λ h=>h) rfl (Jn (Hr b2 rfl)) (λ _=>by decide) ?_;refine UP (d:=12) (x:=.v (.int .u64 ((pc / 4:Nat):Int))) (g:= !((pc % 4) != 0)) rfl rfl rfl rfl (λ h=>h) rfl (okI (Hr b2 rfl)) ?_;refine gOk (d:=13) (x:=.sl 1 (prog.map eJ) clip) (g:= !((pc % 4) != 0)) rfl rfl rfl rfl rfl rfl ?_;refine UP (d:=14) (x:=.v (.int .i64 ((prog.map eJ).length:Int))) (g:= !((pc % 4) != 0)) rfl rfl rfl rfl (λ h=>h) rfl rfl ?_;refine UP (d:=15) (x:=.v (.int .u64 ((prog.length:Nat):Int))) (g:= !((pc % 4) != 0)) rfl rfl rfl rfl (λ h=>h) rfl (by show Res.ok (.v (.int .u64 (IntKind.wrap .u64 ((((prog.map eJ).length:Nat):Int)))))=_;rw[aO,Uh hl]) ?_;refine UP (d:=16) (x:=.v (.bool (decide ((pc / 4)≥prog.length)))) (g:= !((pc % 4) != 0)) rfl rfl rfl rfl (λ h=>by simp_all) rfl (okB (geN _ _)) ?_;refine cH (d:=17) (x:=.v (.bool (cA ((pc % 4) != 0) true (decide ((pc / 4)≥prog.length))))) rfl rfl rfl (by simp) ?_;refine JE (n':=14) rfl ?_;refine aU (v:=cA ((pc % 4) != 0) true (decide ((pc / 4)≥prog.length))) rfl (λ h1=>?_) (λ h1=>?_)
 ·skip
  refine aE ?_;refine aG rfl ?_;refine rOk (d:=4) (x:=.v (.int .u32 0)) rfl rfl rfl ?_;refine rOk (d:=5) (x:=.v (.bool false)) rfl rfl rfl ?_;refine JE (n':=16) rfl ?_;refine cT ?_;exact eW rfl trivial rfl (by unfold fetchW;rw[RC (by simp[cA,bne]at h1;split at h1<;>first|(left;assumption)|(right;assumption)|simp_all)];rfl)
 ·skip
  refine aZ ?_;refine aE ?_;refine aG rfl ?_;refine rOk (d:=18) (x:=.sl 1 (prog.map eJ) clip) rfl rfl rfl ?_;refine rOk (d:=19) (x:=.v (.int .u32 (pc:Int))) rfl rfl rfl ?_;have b3:pc / 4≤1073741823:=kC hpc;refine cH (d:=20) (x:=.v (.int .u32 ((pc / 4:Nat):Int))) rfl rfl (Jn (Hr b3 rfl)) (by decide) ?_;obtain⟨x,hf,hxx⟩:=RB (prog:=prog) (pc:=pc) (by simp[cA,bne]at h1;split at h1<;>simp_all) (by simp[cA,bne]at h1;split at h1<;>simp_all);have hx:x≤4294967295:=hp x (aB hxx);refine Fb (eJ x) (d:=21) (x:=.dp 1 0 (eJ x)) rfl rfl rfl (⟨by omega,by rw[bH];exact congrArg (Option.map eJ) hxx⟩) rfl ?_;refine rOk (d:=22) (x:=.v (.int .u32 (x:Int))) rfl rfl rfl ?_;refine rOk (d:=4) (x:=.v (.int .u32 (x:Int))) rfl rfl rfl ?_;refine rOk (d:=5) (x:=.v (.bool true)) rfl rfl rfl ?_;refine JE (n':=21) rfl ?_;refine cT ?_;exact eW rfl trivial rfl (by unfold fetchW;rw[hf];rfl)
theorem xX(m:ByteArray):(cC m).length=m.size:=by simp[cC]
def upS(n:Nat):Nat:=if n≤16 then 16 else if n≤32 then 32 else if n≤64 then 64 else if n≤128 then 128 else 256
def qQ(m:ByteArray):ByteArray:=⟨((m.extract 0 (min m.size 256)).data.toList++List.replicate (upS (min m.size 256) - min m.size 256) 0).toArray⟩
theorem Bu(m:ByteArray):(m.extract 0 (min m.size 256)).size=min m.size 256:=by rw[dU];omega
theorem xY(m:ByteArray):(qQ m).size=upS (min m.size 256):=by
 have h:=Bu m;have h1:(m.extract 0 (min m.size 256)).data.size=min m.size 256:=h;show (qQ m).data.size=_;simp only[qQ,mK,aY,dO,cU,h1];unfold upS
 repeat' (split<;>try omega)
theorem SJ{n j:Nat}(h4:j≤4)(h1:n≤16 * 2 ^ j)(h2:j=0∨16 * 2 ^ (j - 1)<n):16 * 2 ^ j=upS n:=by
 have:j=0∨j=1∨j=2∨j=3∨j=4:=by omega
 unfold upS;rcases this with rfl|rfl|rfl|rfl|rfl<;>simp at h1 h2⊢ <;>repeat' (split<;>try omega)
theorem LC{j n:Nat}(h4:j≤4)(h:16 * 2 ^ j<min n 256):j<4:=by
 have:j=0∨j=1∨j=2∨j=3∨j=4:=by omega
 rcases this with rfl|rfl|rfl|rfl|rfl<;>simp at h⊢ <;>omega
theorem MI(m:ByteArray)(s:Nat)(h:m.size≤s):iG (List.take s (List.drop 0 (List.take 0 (List.replicate s [AV.v (.int .u8 0)])++List.take (min (cC m).length s) (cC m)++List.drop (0+min (cC m).length s) (List.replicate s [AV.v (.int .u8 0)]))))=some (m.data.toList++List.replicate (s - m.size) 0):=by
 have q:=xX m;simp only[pF,iN,cQ,bU,q,rN h];have e1:List.take m.size (cC m)=cC m:=aN (by rw[q];exact aC _);rw[e1,List.drop_replicate,aN (by simp[q];omega)];have:List.replicate (s - m.size) [AV.v (.int .u8 0)]=(List.replicate (s - m.size) (0:UInt8)).map λ b=>[.v (.int .u8 (b.toNat:Int))]:=by simp
 rw[this];simp only[cC];rw[←fX];exact uU _
set_option maxRecDepth 100000 in
set_option maxHeartbeats 4000000 in
theorem SK(m:ByteArray):bY C0 42 [.v (.string m)] (.v (.string (qQ m))):=by
 refine bY.intro c0Ok Tryz.func42 rfl rfl (by kernel_rfl) rfl ?_;refine aE ?_;refine aG rfl ?_;refine rOk (d:=2) (x:=.v (.string (⟨#[]⟩))) rfl rfl rfl ?_;refine JE (n':=1) rfl ?_;refine aE ?_;refine aG rfl ?_;refine rOk (d:=5) (x:=.v (.string m)) rfl rfl rfl ?_;refine rOk (d:=6) (x:=.v (.string m)) rfl rfl rfl ?_;refine rOk (d:=7) (x:=.v (.int .i64 (m.size:Int))) rfl rfl rfl ?_;refine rOk (d:=8) (x:=.v (.int .i64 ((min m.size 256:Nat):Int))) rfl rfl (by show Res.ok (.v (.int .i64 (if (256:Int)<(m.size:Int)then 256 else (m.size:Int))))=_;congr 3;split<;>omega) ?_;refine cH (d:=9) (x:=.v (.string (m.extract 0 (min m.size 256)))) rfl rfl rfl (by refine⟨?_,?_,?_⟩<;>simp<;>omega) ?_;refine rOk (d:=0) (x:=.v (.string (m.extract 0 (min m.size 256)))) rfl rfl rfl ?_;refine JE (n':=7) rfl ?_;refine aE ?_;refine aG rfl ?_;refine rOk (d:=3) (x:=.v (.int .i64 16)) rfl rfl rfl ?_;refine JE (n':=8) rfl ?_;refine aE ?_;refine bI ?_;refine kZ (κ:=Nat) (λ j=>⟨cI [(0,.v (.string (m.extract 0 (min m.size 256)))),(3,.v (.int .i64 ((16 * 2 ^ j:Nat):Int)))],heapF [],8⟩) (λ j=>j≤4∧(j=0∨16 * 2 ^ (j - 1)<min m.size 256)) (λ j=>4 - j) 0 (λ s=>s) (Weak.of_lists (λ s=>s) ⟨⟨rfl,rfl⟩,⟨rfl,rfl⟩,trivial⟩ trivial rfl) (⟨by decide,.inl rfl⟩) ?_;intro j hj;refine aE ?_;refine aE ?_;refine aG rfl ?_;refine rOk (d:=10) (x:=.v (.int .i64 ((16 * 2 ^ j:Nat):Int))) rfl rfl rfl ?_;refine rOk (d:=11) (x:=.v (.string (m.extract 0 (min m.size 256)))) rfl rfl rfl ?_;refine rOk (d:=12) (x:=.v (.int .i64 ((min m.size 256:Nat):Int))) rfl rfl (congrArg (λ n:Nat=>Res.ok (.v (.int .i64 (n:Int)))) (Bu m)) ?_;refine rOk (d:=13) (x:=.v (.bool (decide ((16 * 2 ^ j)<(min m.size 256))))) rfl rfl (okB (ltN _ _)) ?_;refine JE (n':=12) rfl ?_;refine aU (v:=decide ((16 * 2 ^ j)<(min m.size 256))) rfl (λ h1=>?_) (λ h1=>?_)
 ·skip
  refine aZ ?_;refine bI ?_;refine aG rfl ?_;refine rOk (d:=14) (x:=.v (.int .i64 ((16 * 2 ^ j:Nat):Int))) rfl rfl rfl ?_;refine rOk (d:=15) (x:=.v (.int .i64 ((16 * 2 ^ (j+1):Nat):Int))) rfl rfl (by show Res.ok (.v (.int .i64 (IntKind.wrap .i64 (((16 * 2 ^ j:Nat):Int) * 2))))=_;have p5:=fM (n:=2) (by decide) hj.1;rw[wrap_i64 (by omega) (by omega)];congr 3;rw[Nat.pow_succ];omega) ?_;refine rOk (d:=3) (x:=.v (.int .i64 ((16 * 2 ^ (j+1):Nat):Int))) rfl rfl rfl ?_;refine JE (n':=15) rfl ?_;refine⟨j+1,λ s=>s,Weak.of_lists (λ s=>s) ⟨⟨rfl,rfl⟩,⟨rfl,rfl⟩,trivial⟩ trivial rfl,⟨by have:=LC hj.1 (of_decide_eq_true h1);omega,.inr (by simpa using of_decide_eq_true h1)⟩,by have:=LC hj.1 (of_decide_eq_true h1);show 4 - (j+1)<4 - j;omega⟩
 ·skip
  refine eA ?_;refine aE ?_;refine aG rfl ?_;refine rOk (d:=16) (x:=.v (.int .i64 ((16 * 2 ^ j:Nat):Int))) rfl rfl rfl ?_;refine rFx (d:=17) (x:=.osl 13 0 (16 * 2 ^ j) false) (h':=upd _ 13 (some (.arr (List.replicate (16 * 2 ^ j) [AV.v (.int .u8 0)]) 1))) rfl rfl (rfl) (by have p5:=fM (n:=2) (by decide) hj.1;refine⟨by omega,by omega,?_⟩;simp only[oL];omega) ?_;refine rOk (d:=4) (x:=.osl 13 0 (16 * 2 ^ j) false) rfl rfl rfl ?_;refine JE (n':=15) rfl ?_;refine aE ?_;refine aG rfl ?_;refine rOk (d:=18) (x:=.osl 13 0 (16 * 2 ^ j) false) rfl rfl rfl ?_;refine rOk (d:=19) (x:=.v (.string (m.extract 0 (min m.size 256)))) rfl rfl rfl ?_;refine rFx (d:=20) (x:=.v (.int .i64 ((min (cC (m.extract 0 (min m.size 256))).length (16 * 2 ^ j):Nat):Int))) (h':=upd _ 13 (some (.arr (List.take 0 (List.replicate (16 * 2 ^ j) [AV.v (.int .u8 0)])++List.take (min (cC (m.extract 0 (min m.size 256))).length (16 * 2 ^ j)) (cC (m.extract 0 (min m.size 256)))++List.drop (0+min (cC (m.extract 0 (min m.size 256))).length (16 * 2 ^ j)) (List.replicate (16 * 2 ^ j) [AV.v (.int .u8 0)])) 1))) rfl rfl (rfl) (⟨by simp,trivial⟩) ?_;refine JE (n':=18) rfl ?_;refine aE ?_;refine aG rfl ?_;refine rOk (d:=21) (x:=.osl 13 0 (16 * 2 ^ j) false) rfl rfl rfl ?_;refine WF ((m.extract 0 (min m.size 256)).data.toList++List.replicate (upS (min m.size 256) - min m.size 256) 0) (d:=22) rfl rfl rfl (by show 0+16 * 2 ^ j≤List.length (List.take 0 (List.replicate (16 * 2 ^ j) [AV.v (.int .u8 0)])++List.take (min (cC (m.extract 0 (min m.size 256))).length (16 * 2 ^ j)) (cC (m.extract 0 (min m.size 256)))++List.drop (0+min (cC (m.extract 0 (min m.size 256))).length (16 * 2 ^ j)) (List.replicate (16 * 2 ^ j) [AV.v (.int .u8 0)]));have q:=xX (m.extract 0 (min m.size 256));have q2:=Bu m;have:=aD h1;simp only[aY,aQ,bA,cU,q,q2];omega) (by have e:=MI (m.extract 0 (min m.size 256)) (16 * 2 ^ j) (by have:=aD h1;rw[Bu];omega);rw[Bu,SJ hj.1 (by have:=aD h1;omega) hj.2]at e;rw[SJ hj.1 (by have:=aD h1;omega) hj.2];exact e) ?_;refine rOk (d:=2) (x:=.v (.string (qQ m))) rfl rfl rfl ?_;refine JE (n':=21) rfl ?_;refine cT ?_;exact FG rfl trivial rfl rfl
set_option maxRecDepth 100000
set_option maxHeartbeats 4000000
abbrev fD(n:Int):List AV:=[.v (.int .i64 n)]
abbrev cfL(c:Cf)(cl ct:Bool):List AV:=[.v (.int .i64 c.mode),.v (.int .i64 c.width),.v (.int .i64 c.rob),.v (.int .i64 c.queue),.v (.int .i64 c.stores),.v (.int .i64 c.slots),.v (.int .i64 c.sets),.v (.int .i64 c.ways),.sl 1 (c.lat.map fD) cl,.v (.bool c.tables),.sl 1 (c.tape.map eJ) ct]
structure Cf.ok(c:Cf):Prop where
 lat:c.lat.length≤9223372036854775807
 tape:c.tape.length≤9223372036854775807
 tp:∀ x∈c.tape,x≤4294967295
mutual
theorem xO(σ:Nat→Nat):∀ (a:AV),eM a=true→uK σ a=a
 | .v _,_| .sl _ _ _,_| .dp _ _ _,_=>by simp[uK]
 | .agg cs,h=>by simp only[uK,qE σ cs (by simpa [eM]using h)]
 | .tup cs,h=>by simp only[uK,qE σ cs (by simpa [eM]using h)]
 | .clo f a b,h=>by
  simp only[eM]at h;split at h
  ·rename_i ha;simp only[uK,qE σ a ha,qE σ b h]
  ·cases h
 | .ptr _ _,h| .ptr2 _ _ _,h| .osl _ _ _ _,h| .opt _ _,h| .any,h=>by cases h
theorem qE(σ:Nat→Nat):∀ (cs:List AV),fR cs=true→Bz σ cs=cs
 |[],_=>by simp[Bz]
 |c::cs,h=>by
  simp only[fR]at h;split at h
  ·rename_i hc;simp only[Bz,xO σ c hc,qE σ cs h]
  ·cases h
end
mutual
theorem GN(n:Nat):∀ (a:AV),eM a=true→mW n a=true
 | .v _,_| .sl _ _ _,_| .dp _ _ _,_=>by simp[mW]
 | .agg cs,h=>by simp only[mW,mY n cs (by simpa [eM]using h)]
 | .tup cs,h=>by simp only[mW,mY n cs (by simpa [eM]using h)]
 | .clo f a b,h=>by
  simp only[eM]at h;split at h
  ·rename_i ha;simp only[mW,mY n a ha,mY n b h]
  ·cases h
 | .ptr _ _,h| .ptr2 _ _ _,h| .osl _ _ _ _,h| .opt _ _,h| .any,h=>by cases h
theorem mY(n:Nat):∀ (cs:List AV),fR cs=true→pK n cs=true
 |[],_=>by simp[pK]
 |c::cs,h=>by
  simp only[fR]at h;split at h
  ·rename_i hc;simp only[pK,GN n c hc,mY n cs h]
  ·cases h
end
theorem Xf(σ:Nat→Nat){cs:List AV}(h:fR cs=true):some (Blk.box cs)=some (Ew σ (.box cs)):=by simp only[Ew,qE σ cs h]
theorem Xw(n:Nat){cs:List AV}(h:fR cs=true):tC n (.box cs)=true:=by simp only[tC,mY n cs h]
theorem VO(cells:List AV)(col:Nat)(n lo hi:Int)(hn:KL cells col=some (.v (.int .i64 n)))(hc:col+1≤cells.length)(hcl:fR (yT col [.v (.int .i64 (aV n lo hi))] cells)=true):
  pJ C0.P C0.G 82 [.ptr 0 col,.v (.int .i64 lo),.v (.int .i64 hi)] (heapF [(0,.box cells)]) 1 (λ x h'=>x=.tup []∧h'=heapF [(0,.box (yT col [.v (.int .i64 (aV n lo hi))] cells))]):=by
 refine HCall.intro (C:=C0) (s:=1) c0Ok.at Tryz.func82 rfl rfl (by kernel_rfl) rfl rfl<|aG rfl<|oR 3 rfl<|rW (.v (.int .i64 n)) rfl (by show okO (KL cells col)=_;rw[hn];rfl)<|oR 1 rfl<|rV (.v (.int .i64 (if lo>n then lo else n))) rfl<|oR 1 rfl<|rV (.v (.int .i64 (if hi<(if lo>n then lo else n)then hi else (if lo>n then lo else n)))) rfl<|oR 1 rfl ?_;have hb:Nat.ble (col+1) cells.length=true:=jS hc;refine Vf (p:=True) (h':=upd _ 0 (some (.box (yT col [.v (.int .i64 (aV n lo hi))] cells)))) rfl rfl (by
  show (match Nat.ble (col+1) cells.length with|true=>Res.fx True .any (upd _ 0 (some (.box (yT col [.v (.int .i64 (if hi<(if lo>n then lo else n)then hi else (if lo>n then lo else n)))] cells))))|false=>.bad)=_;rw[hb];rfl) trivial ?_
 refine rE 11 ?_;exact oX (rs:=[]) rfl (σ:=λ s=>s) ⟨rfl,rfl⟩ rfl (cF (λ s=>s) rfl rfl ⟨⟨rfl,Xf _ hcl,Xw _ hcl⟩,trivial⟩ rfl)
theorem xP{cells cells':List AV}{b col:Nat}{n lo hi:Int}{K:AH}{s2:Nat}(hn:KL cells col=some (.v (.int .i64 n)))(hc:Nat.ble (col+1) cells.length=true)(he:yT col [.v (.int .i64 (aV n lo hi))] cells=cells')(hcl:fR cells=true)(hcl':fR cells'=true)(hb:Nat.blt b s2=true)(hK:K b=some (.box cells)):
  pJ C0.P C0.G 82 [.ptr b col,.v (.int .i64 lo),.v (.int .i64 hi)] K s2 (λ x h'=>x=.tup []∧h'=upd K b (some (.box cells'))):=by
 subst he;have:=(VO cells col n lo hi hn (aR hc) hcl').frame1 b K s2 (aR hb) (Xw 1 hcl) (by rw[hK];exact Xf _ hcl) rfl;rw[←Xf (EJ (λ _=>b) 1 s2) hcl']at this;exact this
theorem TZ(rows:List (List AV))(k:Nat)(n lo hi:Int)(hn:rows[k]?=some [.v (.int .i64 n)]):
  pJ C0.P C0.G 82 [.ptr2 0 k 0,.v (.int .i64 lo),.v (.int .i64 hi)] (heapF [(0,.arr rows 1)]) 1 (λ x h'=>x=.tup []∧h'=heapF [(0,.arr (rows.set k [.v (.int .i64 (aV n lo hi))]) 1)]):=by
 refine HCall.intro (C:=C0) (s:=1) c0Ok.at Tryz.func82 rfl rfl (by kernel_rfl) rfl rfl<|aG rfl<|oR 3 rfl<|Fb [.v (.int .i64 n)] (x:=.v (.int .i64 n)) rfl rfl rfl ⟨aI _,hn⟩ rfl<|oR 1 rfl<|rV (.v (.int .i64 (if lo>n then lo else n))) rfl<|oR 1 rfl<|rV (.v (.int .i64 (if hi<(if lo>n then lo else n)then hi else (if lo>n then lo else n)))) rfl<|oR 1 rfl<|oE [.v (.int .i64 n)] (h':=upd _ 0 (some (.arr (rows.set k [.v (.int .i64 (aV n lo hi))]) 1))) rfl rfl rfl ⟨aI _,hn⟩ rfl<|rE 11 ?_;exact oX (rs:=[]) rfl (σ:=λ s=>s) ⟨rfl,rfl⟩ rfl (cF (λ s=>s) rfl rfl wH rfl)
theorem Lq{rows rows':List (List AV)}{b k:Nat}{n lo hi:Int}{K:AH}{s2:Nat}(hn:rows[k]?=some [.v (.int .i64 n)])(he:rows.set k [.v (.int .i64 (aV n lo hi))]=rows')(hb:Nat.blt b s2=true)(hK:K b=some (.arr rows 1)):
  pJ C0.P C0.G 82 [.ptr2 b k 0,.v (.int .i64 lo),.v (.int .i64 hi)] K s2 (λ x h'=>x=.tup []∧h'=upd K b (some (.arr rows' 1))):=by
 subst he;exact (TZ rows k n lo hi hn).frame1 b K s2 (aR hb) rfl hK rfl
theorem Bp(a b:Nat):Res.ok (.v (.int .i64 (if (b:Int)<(a:Int)then (b:Int)else (a:Int))))=.ok (.v (.int .i64 ((min a b:Nat):Int))):=by congr 3;split<;>omega
theorem Bq{α:Type}(f:α→List AV)(l:List α)(z:List AV)(n:Nat)(hn:n=min l.length 64):(List.replicate n z).take 0++(l.map f).take (min (l.map f).length n)++(List.replicate n z).drop (0+min (l.map f).length n)=(l.take 64).map f:=by
 subst hn;rw[aO,pF,iN,eF (by rw[cU];omega),eQ, ←fO];congr 1;rcases Nat.le_total l.length 64 with h|h
 ·rw[aN omT,aN omT]
 ·congr 1;omega
theorem bQ{α:Type}(f:α→List AV)(l:List α):Res.ok (.v (.int .i64 ((l.map f).length:Int)))=.ok (.v (.int .i64 ((l.length:Nat):Int))):=by rw[aO]
def CE(c:Cf)(k:Nat):List (List AV):=((((c.lat.take 64).take k).map λ n=>aV n 1 8)++(c.lat.take 64).drop k).map fD
theorem Lr(c:Cf)(k:Nat)(h:(c.lat.take 64).length≤k):CE c k=(bB c).lat.map fD:=by
 unfold CE bB;rw[aN h,eF h,eQ]
theorem Ls{c:Cf}{k:Nat}{x:Int}(hx:(c.lat.take 64)[k]?=some x):(CE c k)[k]?=some (fD x):=by
 have hk:=(Db.1 hx).1;unfold CE;rw[bH,bW (by simp;omega)];simp only[aO,aQ];rw[dE,show k+(k - min k (min 64 c.lat.length))=k by have:k<(c.lat.take 64).length:=hk;rw[aQ]at this;omega,hx];rfl
theorem Lt{c:Cf}{k:Nat}{x:Int}(hx:(c.lat.take 64)[k]?=some x):(CE c k).set k [.v (.int .i64 (aV x 1 8))]=CE c (k+1):=by
 unfold CE;generalize c.lat.take 64=l at hx⊢;have hk:=(Db.1 hx).1;have hl:((l.take k).map λ n=>aV n 1 8).length=k:=by rw[aO,aQ];omega
 have hx':l[k]=x:=by rw[aA hk]at hx;exact Option.some.inj hx
 rw[show ([.v (.int .i64 (aV x 1 8))]:List AV)=fD (aV x 1 8)from rfl, ←List.map_set,jT _ _ omT,hl,iI,eD hk,jQ,bX,hx];simp
theorem Lu(c:Cf)(k:Nat)(h:k≤(c.lat.take 64).length):(CE c k).length=(c.lat.take 64).length:=by
 unfold CE;simp only[aO,aY,bA];rw[List.length_take_of_le h];omega
theorem GO{p:Prop}{x:AV}{h:AH}{b rs:Nat}{r r':List (List AV)}(e:r=r'):Res.fx p x (upd h b (some (.arr r rs)))=.fx p x (upd h b (some (.arr r' rs))):=by rw[e]
theorem GP(c:Cf)(cl ct:Bool)(hok:c.ok):bY C0 39 [.agg (cfL c cl ct)] (.agg (cfL (bB c) false false)):=by
 refine bY.intro c0Ok Tryz.func39 rfl rfl (by kernel_rfl) rfl<|aE<|aG rfl<|rAl 0 rfl rfl<|rAl 1 rfl rfl<|rE 2<|aE<|aG rfl<|oR 1 rfl<|rE 3<|aE<|aG rfl<|oR 2 rfl<|eE (args:=[.ptr 0 0,vI 0,vI 2]) (d:=9) _ rfl rfl rfl (xP (cells:=[vI c.mode,vI c.width,vI c.rob,vI c.queue,vI c.stores,vI c.slots,vI c.sets,vI c.ways,.sl 1 (c.lat.map fD) cl,vB c.tables,.sl 1 (c.tape.map eJ) ct]) (cells':=[vI (aV c.mode 0 2),vI c.width,vI c.rob,vI c.queue,vI c.stores,vI c.slots,vI c.sets,vI c.ways,.sl 1 (c.lat.map fD) cl,vB c.tables,.sl 1 (c.tape.map eJ) ct]) rfl rfl rfl rfl rfl rfl rfl) ?_;rintro _ _ ⟨rfl,rfl⟩;refine rE 6<|aE<|aG rfl<|oR 2 rfl<|eE (args:=[.ptr 0 1,vI 1,vI 2]) (d:=12) _ rfl rfl rfl (xP (cells:=[vI (aV c.mode 0 2),vI c.width,vI c.rob,vI c.queue,vI c.stores,vI c.slots,vI c.sets,vI c.ways,.sl 1 (c.lat.map fD) cl,vB c.tables,.sl 1 (c.tape.map eJ) ct]) (cells':=[vI (aV c.mode 0 2),vI (aV c.width 1 2),vI c.rob,vI c.queue,vI c.stores,vI c.slots,vI c.sets,vI c.ways,.sl 1 (c.lat.map fD) cl,vB c.tables,.sl 1 (c.tape.map eJ) ct]) rfl rfl rfl rfl rfl rfl rfl) ?_;rintro _ _ ⟨rfl,rfl⟩;refine rE 9<|aE<|aG rfl<|oR 2 rfl<|eE (args:=[.ptr 0 2,vI 2,vI 8]) (d:=15) _ rfl rfl rfl (xP (cells:=[vI (aV c.mode 0 2),vI (aV c.width 1 2),vI c.rob,vI c.queue,vI c.stores,vI c.slots,vI c.sets,vI c.ways,.sl 1 (c.lat.map fD) cl,vB c.tables,.sl 1 (c.tape.map eJ) ct]) (cells':=[vI (aV c.mode 0 2),vI (aV c.width 1 2),vI (aV c.rob 2 8),vI c.queue,vI c.stores,vI c.slots,vI c.sets,vI c.ways,.sl 1 (c.lat.map fD) cl,vB c.tables,.sl 1 (c.tape.map eJ) ct]) rfl rfl rfl rfl rfl rfl rfl) ?_;rintro _ _ ⟨rfl,rfl⟩;refine rE 12<|aE<|aG rfl<|oR 2 rfl<|eE (args:=[.ptr 0 3,vI 1,vI 4]) (d:=18) _ rfl rfl rfl (xP (cells:=[vI (aV c.mode 0 2),vI (aV c.width 1 2),vI (aV c.rob 2 8),vI c.queue,vI c.stores,vI c.slots,vI c.sets,vI c.ways,.sl 1 (c.lat.map fD) cl,vB c.tables,.sl 1 (c.tape.map eJ) ct]) (cells':=[vI (aV c.mode 0 2),vI (aV c.width 1 2),vI (aV c.rob 2 8),vI (aV c.queue 1 4),vI c.stores,vI c.slots,vI c.sets,vI c.ways,.sl 1 (c.lat.map fD) cl,vB c.tables,.sl 1 (c.tape.map eJ) ct]) rfl rfl rfl rfl rfl rfl rfl) ?_;rintro _ _ ⟨rfl,rfl⟩;refine rE 15<|aE<|aG rfl<|oR 2 rfl<|eE (args:=[.ptr 0 4,vI 1,vI 4]) (d:=21) _ rfl rfl rfl (xP (cells:=[vI (aV c.mode 0 2),vI (aV c.width 1 2),vI (aV c.rob 2 8),vI (aV c.queue 1 4),vI c.stores,vI c.slots,vI c.sets,vI c.ways,.sl 1 (c.lat.map fD) cl,vB c.tables,.sl 1 (c.tape.map eJ) ct]) (cells':=[vI (aV c.mode 0 2),vI (aV c.width 1 2),vI (aV c.rob 2 8),vI (aV c.queue 1 4),vI (aV c.stores 1 4),vI c.slots,vI c.sets,vI c.ways,.sl 1 (c.lat.map fD) cl,vB c.tables,.sl 1 (c.tape.map eJ) ct]) rfl rfl rfl rfl rfl rfl rfl) ?_;rintro _ _ ⟨rfl,rfl⟩;refine rE 18<|aE<|aG rfl<|oR 2 rfl<|eE (args:=[.ptr 0 5,vI 2,vI 6]) (d:=24) _ rfl rfl rfl (xP (cells:=[vI (aV c.mode 0 2),vI (aV c.width 1 2),vI (aV c.rob 2 8),vI (aV c.queue 1 4),vI (aV c.stores 1 4),vI c.slots,vI c.sets,vI c.ways,.sl 1 (c.lat.map fD) cl,vB c.tables,.sl 1 (c.tape.map eJ) ct]) (cells':=[vI (aV c.mode 0 2),vI (aV c.width 1 2),vI (aV c.rob 2 8),vI (aV c.queue 1 4),vI (aV c.stores 1 4),vI (aV c.slots 2 6),vI c.sets,vI c.ways,.sl 1 (c.lat.map fD) cl,vB c.tables,.sl 1 (c.tape.map eJ) ct]) rfl rfl rfl rfl rfl rfl rfl) ?_;rintro _ _ ⟨rfl,rfl⟩;refine rE 21<|aE<|aG rfl<|oR 2 rfl<|eE (args:=[.ptr 0 6,vI 1,vI 4]) (d:=27) _ rfl rfl rfl (xP (cells:=[vI (aV c.mode 0 2),vI (aV c.width 1 2),vI (aV c.rob 2 8),vI (aV c.queue 1 4),vI (aV c.stores 1 4),vI (aV c.slots 2 6),vI c.sets,vI c.ways,.sl 1 (c.lat.map fD) cl,vB c.tables,.sl 1 (c.tape.map eJ) ct]) (cells':=[vI (aV c.mode 0 2),vI (aV c.width 1 2),vI (aV c.rob 2 8),vI (aV c.queue 1 4),vI (aV c.stores 1 4),vI (aV c.slots 2 6),vI (aV c.sets 1 4),vI c.ways,.sl 1 (c.lat.map fD) cl,vB c.tables,.sl 1 (c.tape.map eJ) ct]) rfl rfl rfl rfl rfl rfl rfl) ?_;rintro _ _ ⟨rfl,rfl⟩;refine rE 24<|aE<|aE<|aG rfl<|oR 2 rfl<|rV (vB ((aV c.sets 1 4)==3)) rfl<|rE 27 ?_;refine aU rfl (λ h1=>?_) (λ h1=>?_)
 ·refine aG rfl<|oR 1 rfl<|rSt rfl<|rE 29<|aE<|aG rfl<|oR 2 rfl<|eE (args:=[.ptr 0 7,vI 1,vI 2]) (d:=34) _ rfl rfl rfl (xP (cells:=[vI (aV c.mode 0 2),vI (aV c.width 1 2),vI (aV c.rob 2 8),vI (aV c.queue 1 4),vI (aV c.stores 1 4),vI (aV c.slots 2 6),vI 2,vI c.ways,.sl 1 (c.lat.map fD) cl,vB c.tables,.sl 1 (c.tape.map eJ) ct]) (cells':=[vI (aV c.mode 0 2),vI (aV c.width 1 2),vI (aV c.rob 2 8),vI (aV c.queue 1 4),vI (aV c.stores 1 4),vI (aV c.slots 2 6),vI 2,vI (aV c.ways 1 2),.sl 1 (c.lat.map fD) cl,vB c.tables,.sl 1 (c.tape.map eJ) ct]) rfl rfl rfl rfl rfl rfl rfl) ?_;rintro _ _ ⟨rfl,rfl⟩;refine rE 32<|aE<|aG rfl<|oR 2 rfl<|rW (vN c.lat.length) rfl (bQ fD c.lat)<|rW (vN (min c.lat.length 64)) rfl (Bp c.lat.length 64)<|rFx (x:=.osl 36 0 (min c.lat.length 64) false) (h':=upd _ 36 (some (.arr (List.replicate (min c.lat.length 64) [vI 0]) 1))) rfl rfl (rfl) (⟨aI _,kH _,by show (((min c.lat.length 64):Nat):Int)≤1000000;have:=(aL (eT c.lat.length 64) (aC 64));omega⟩)<|oR 1 rfl<|rE 38<|aE<|aG rfl<|oR 3 rfl<|rFx (x:=vI ((min (c.lat.map fD).length (min c.lat.length 64):Nat):Int)) (h':=upd _ 36 (some (.arr (CE c 0) 1))) rfl rfl (GO (Bq fD c.lat [.v (.int .i64 0)] _ rfl)) (⟨by simp,trivial⟩)<|rE 42<|aE<|aE ?_;refine aG rfl<|oR 1 rfl<|rV (vN (min c.lat.length 64)) rfl<|oR 1 rfl<|rE 45<|bI<|kZ (κ:=Nat) (λ k=>⟨cI [(1,.ptr 0 0),(2,.ptr 1 0),(3,.clo 82 [] []),(4,.osl 36 0 (min c.lat.length 64) false),(45,vN (min c.lat.length 64)),(46,vN k)],heapF [(0,.box [vI (aV c.mode 0 2),vI (aV c.width 1 2),vI (aV c.rob 2 8),vI (aV c.queue 1 4),vI (aV c.stores 1 4),vI (aV c.slots 2 6),vI 2,vI (aV c.ways 1 2),.sl 1 (c.lat.map fD) cl,vB c.tables,.sl 1 (c.tape.map eJ) ct]),(1,.box [vI 0,vI 0,vI 0,vI 0,vI 0,vI 0,vI 0,vI 0,.sl 0 ([]) true,vB false,.sl 0 ([]) true]),(36,.arr (CE c k) 1)],45⟩) (λ k=>k≤min c.lat.length 64) (λ k=>min c.lat.length 64 - k) 0 (λ s=>s) (Weak.of_lists (λ s=>s) wT wH rfl) (aF _) ?_;intro k hk;have hkB:k≤1000000:=by omega
  refine aE<|aG rfl<|rW (vB (decide (k<(min c.lat.length 64)))) rfl (okB (ltN _ _))<|rE 46<|aE ?_;refine aU rfl (λ h2=>?_) (λ h2=>?_)
  ·refine aZ<|aE<|bI<|aE<|aG rfl<|oR 2 rfl<|rE 48<|aG rfl<|oR 3 rfl ?_;have hkl:k<(c.lat.take 64).length:=by have:=of_decide_eq_true h2;rw[aQ];omega
   obtain⟨x,hx⟩:∃ x,(c.lat.take 64)[k]?=some x:=⟨_,aA hkl⟩;have hxk:(CE c k)[0+k]?=some [.v (.int .i64 x)]:=by rw[bU];exact Ls hx
   refine nW (.ptr2 36 (0+k) 0) rfl rfl (⟨aI _,by show (k:Int)<((min c.lat.length 64:Nat):Int);have:=of_decide_eq_true h2;omega⟩)<|eE (args:=[.ptr2 36 (0+k) 0,vI 1,vI 8]) (d:=53) _ rfl rfl rfl (Lq (rows:=CE c k) (rows':=CE c (k+1)) (k:=0+k) (n:=x) hxk ((bU k).symm ▸ Lt hx) rfl rfl) ?_;rintro _ _ ⟨rfl,rfl⟩;refine rE 53<|aG rfl ?_;have b1:k+1≤1000001:=aH hkB (aC 1);refine rW (vN (k+1)) rfl (okI (bS b1 rfl))<|oR 1 rfl<|rE 55 ?_;refine⟨k+1,λ s=>s,Weak.of_lists _ wT wH rfl,by have:=of_decide_eq_true h2;omega,by have:=of_decide_eq_true h2;show min c.lat.length 64 - (k+1)<min c.lat.length 64 - k;omega⟩
  ·refine eA<|aE<|aG rfl<|oR 2 rfl<|rW (vN c.tape.length) rfl (bQ eJ c.tape)<|rW (vN (min c.tape.length 64)) rfl (Bp c.tape.length 64)<|rFx (x:=.osl 50 0 (min c.tape.length 64) false) (h':=upd _ 50 (some (.arr (List.replicate (min c.tape.length 64) [.v (.int .u32 0)]) 1))) rfl rfl (rfl) (⟨aI _,kH _,by show (((min c.tape.length 64):Nat):Int)≤1000000;have:=(aL (eT c.tape.length 64) (aC 64));omega⟩)<|oR 1 rfl<|rE 52<|aE<|aG rfl<|oR 3 rfl<|rFx (x:=vI ((min (c.tape.map eJ).length (min c.tape.length 64):Nat):Int)) (h':=upd _ 50 (some (.arr ((c.tape.take 64).map eJ) 1))) rfl rfl (GO (Bq eJ c.tape [.v (.int .u32 0)] _ rfl)) (⟨by simp,trivial⟩)<|rE 56<|aE<|aG rfl ?_;refine oR 3 rfl<|rSt rfl<|oR 1 rfl<|rSt rfl<|rE 62<|aE<|aG rfl<|oR 1 rfl<|rSt rfl<|rE 64<|cT ?_;have hk2:(c.lat.take 64).length≤k:=by rw[aQ];have:=aD h2;omega
   have hll:=Lu c k (by rw[aQ];omega);have e1:List.take (min c.lat.length 64) (List.drop 0 (CE c k))=(bB c).lat.map fD:=by rw[cQ,aN (by rw[hll,aQ];omega),Lr c k hk2]
   have e2:List.take (min c.tape.length 64) (List.drop 0 ((c.tape.take 64).map eJ))=(bB c).tape.map eJ:=by rw[cQ,aN (by rw[aO,aQ];omega)];rfl
   have e3:(bB c).sets=2:=if_pos (by simpa using h1);refine eW rfl (r4 (r4 ⟨by show 0+min c.lat.length 64≤(CE c k).length;rw[hll,aQ];omega,trivial,by show 0+min c.tape.length 64≤((c.tape.take 64).map eJ).length;rw[aO,aQ];omega,trivial⟩)) rfl ?_;show AV.agg [vI (aV c.mode 0 2),vI (aV c.width 1 2),vI (aV c.rob 2 8),vI (aV c.queue 1 4),vI (aV c.stores 1 4),vI (aV c.slots 2 6),vI 2,vI (aV c.ways 1 2),.sl 1 (List.take (min c.lat.length 64) (List.drop 0 (CE c k))) false,vB c.tables,.sl 1 (List.take (min c.tape.length 64) (List.drop 0 ((c.tape.take 64).map eJ))) false]=AV.agg (cfL (bB c) false false);rw[e1,e2];show _=AV.agg [vI (bB c).mode,vI (bB c).width,vI (bB c).rob,vI (bB c).queue,vI (bB c).stores,vI (bB c).slots,vI (bB c).sets,vI (bB c).ways,.sl 1 ((bB c).lat.map fD) false,vB (bB c).tables,.sl 1 ((bB c).tape.map eJ) false];rw[e3];rfl
 ·refine aZ<|aE<|aG rfl<|oR 2 rfl<|eE (args:=[.ptr 0 7,vI 1,vI 2]) (d:=34) _ rfl rfl rfl (xP (cells:=[vI (aV c.mode 0 2),vI (aV c.width 1 2),vI (aV c.rob 2 8),vI (aV c.queue 1 4),vI (aV c.stores 1 4),vI (aV c.slots 2 6),vI (aV c.sets 1 4),vI c.ways,.sl 1 (c.lat.map fD) cl,vB c.tables,.sl 1 (c.tape.map eJ) ct]) (cells':=[vI (aV c.mode 0 2),vI (aV c.width 1 2),vI (aV c.rob 2 8),vI (aV c.queue 1 4),vI (aV c.stores 1 4),vI (aV c.slots 2 6),vI (aV c.sets 1 4),vI (aV c.ways 1 2),.sl 1 (c.lat.map fD) cl,vB c.tables,.sl 1 (c.tape.map eJ) ct]) rfl rfl rfl rfl rfl rfl rfl) ?_;rintro _ _ ⟨rfl,rfl⟩;refine rE 30<|aE<|aG rfl<|oR 2 rfl<|rW (vN c.lat.length) rfl (bQ fD c.lat)<|rW (vN (min c.lat.length 64)) rfl (Bp c.lat.length 64)<|rFx (x:=.osl 34 0 (min c.lat.length 64) false) (h':=upd _ 34 (some (.arr (List.replicate (min c.lat.length 64) [vI 0]) 1))) rfl rfl (rfl) (⟨aI _,kH _,by show (((min c.lat.length 64):Nat):Int)≤1000000;have:=(aL (eT c.lat.length 64) (aC 64));omega⟩)<|oR 1 rfl<|rE 36<|aE<|aG rfl<|oR 3 rfl<|rFx (x:=vI ((min (c.lat.map fD).length (min c.lat.length 64):Nat):Int)) (h':=upd _ 34 (some (.arr (CE c 0) 1))) rfl rfl (GO (Bq fD c.lat [.v (.int .i64 0)] _ rfl)) (⟨by simp,trivial⟩)<|rE 40<|aE<|aE ?_;refine aG rfl<|oR 1 rfl<|rV (vN (min c.lat.length 64)) rfl<|oR 1 rfl<|rE 43<|bI<|kZ (κ:=Nat) (λ k=>⟨cI [(1,.ptr 0 0),(2,.ptr 1 0),(3,.clo 82 [] []),(4,.osl 34 0 (min c.lat.length 64) false),(45,vN (min c.lat.length 64)),(46,vN k)],heapF [(0,.box [vI (aV c.mode 0 2),vI (aV c.width 1 2),vI (aV c.rob 2 8),vI (aV c.queue 1 4),vI (aV c.stores 1 4),vI (aV c.slots 2 6),vI (aV c.sets 1 4),vI (aV c.ways 1 2),.sl 1 (c.lat.map fD) cl,vB c.tables,.sl 1 (c.tape.map eJ) ct]),(1,.box [vI 0,vI 0,vI 0,vI 0,vI 0,vI 0,vI 0,vI 0,.sl 0 ([]) true,vB false,.sl 0 ([]) true]),(34,.arr (CE c k) 1)],43⟩) (λ k=>k≤min c.lat.length 64) (λ k=>min c.lat.length 64 - k) 0 (λ s=>s) (Weak.of_lists (λ s=>s) wT wH rfl) (aF _) ?_;intro k hk;have hkB:k≤1000000:=by omega
  refine aE<|aG rfl<|rW (vB (decide (k<(min c.lat.length 64)))) rfl (okB (ltN _ _))<|rE 44<|aE ?_;refine aU rfl (λ h3=>?_) (λ h3=>?_)
  ·refine aZ<|aE<|bI<|aE<|aG rfl<|oR 2 rfl<|rE 46<|aG rfl<|oR 3 rfl ?_;have hkl:k<(c.lat.take 64).length:=by have:=of_decide_eq_true h3;rw[aQ];omega
   obtain⟨x,hx⟩:∃ x,(c.lat.take 64)[k]?=some x:=⟨_,aA hkl⟩;have hxk:(CE c k)[0+k]?=some [.v (.int .i64 x)]:=by rw[bU];exact Ls hx
   refine nW (.ptr2 34 (0+k) 0) rfl rfl (⟨aI _,by show (k:Int)<((min c.lat.length 64:Nat):Int);have:=of_decide_eq_true h3;omega⟩)<|eE (args:=[.ptr2 34 (0+k) 0,vI 1,vI 8]) (d:=53) _ rfl rfl rfl (Lq (rows:=CE c k) (rows':=CE c (k+1)) (k:=0+k) (n:=x) hxk ((bU k).symm ▸ Lt hx) rfl rfl) ?_;rintro _ _ ⟨rfl,rfl⟩;refine rE 51<|aG rfl ?_;have b2:k+1≤1000001:=aH hkB (aC 1);refine rW (vN (k+1)) rfl (okI (bS b2 rfl))<|oR 1 rfl<|rE 53 ?_;refine⟨k+1,λ s=>s,Weak.of_lists _ wT wH rfl,by have:=of_decide_eq_true h3;omega,by have:=of_decide_eq_true h3;show min c.lat.length 64 - (k+1)<min c.lat.length 64 - k;omega⟩
  ·refine eA<|aE<|aG rfl<|oR 2 rfl<|rW (vN c.tape.length) rfl (bQ eJ c.tape)<|rW (vN (min c.tape.length 64)) rfl (Bp c.tape.length 64)<|rFx (x:=.osl 48 0 (min c.tape.length 64) false) (h':=upd _ 48 (some (.arr (List.replicate (min c.tape.length 64) [.v (.int .u32 0)]) 1))) rfl rfl (rfl) (⟨aI _,kH _,by show (((min c.tape.length 64):Nat):Int)≤1000000;have:=(aL (eT c.tape.length 64) (aC 64));omega⟩)<|oR 1 rfl<|rE 50<|aE<|aG rfl<|oR 3 rfl<|rFx (x:=vI ((min (c.tape.map eJ).length (min c.tape.length 64):Nat):Int)) (h':=upd _ 48 (some (.arr ((c.tape.take 64).map eJ) 1))) rfl rfl (GO (Bq eJ c.tape [.v (.int .u32 0)] _ rfl)) (⟨by simp,trivial⟩)<|rE 54<|aE<|aG rfl ?_;refine oR 3 rfl<|rSt rfl<|oR 1 rfl<|rSt rfl<|rE 60<|aE<|aG rfl<|oR 1 rfl<|rSt rfl<|rE 62<|cT ?_;have hk2:(c.lat.take 64).length≤k:=by rw[aQ];have:=aD h3;omega
   have hll:=Lu c k (by rw[aQ];omega);have e1:List.take (min c.lat.length 64) (List.drop 0 (CE c k))=(bB c).lat.map fD:=by rw[cQ,aN (by rw[hll,aQ];omega),Lr c k hk2]
   have e2:List.take (min c.tape.length 64) (List.drop 0 ((c.tape.take 64).map eJ))=(bB c).tape.map eJ:=by rw[cQ,aN (by rw[aO,aQ];omega)];rfl
   have e3:(bB c).sets=aV c.sets 1 4:=if_neg (by simpa using h1);refine eW rfl (r4 (r4 ⟨by show 0+min c.lat.length 64≤(CE c k).length;rw[hll,aQ];omega,trivial,by show 0+min c.tape.length 64≤((c.tape.take 64).map eJ).length;rw[aO,aQ];omega,trivial⟩)) rfl ?_;show AV.agg [vI (aV c.mode 0 2),vI (aV c.width 1 2),vI (aV c.rob 2 8),vI (aV c.queue 1 4),vI (aV c.stores 1 4),vI (aV c.slots 2 6),vI (aV c.sets 1 4),vI (aV c.ways 1 2),.sl 1 (List.take (min c.lat.length 64) (List.drop 0 (CE c k))) false,vB c.tables,.sl 1 (List.take (min c.tape.length 64) (List.drop 0 ((c.tape.take 64).map eJ))) false]=AV.agg (cfL (bB c) false false);rw[e1,e2];show _=AV.agg [vI (bB c).mode,vI (bB c).width,vI (bB c).rob,vI (bB c).queue,vI (bB c).stores,vI (bB c).slots,vI (bB c).sets,vI (bB c).ways,.sl 1 ((bB c).lat.map fD) false,vB (bB c).tables,.sl 1 ((bB c).tape.map eJ) false];rw[e3];rfl
abbrev wyL(x:Wy):List AV:=[.v (.int .u32 (x.line:Int)),.v (.bool x.dirty),.v (.string x.data)]
abbrev XJ(s:List Wy):AV:=.sl 3 (s.map wyL) false
abbrev cB(s:List Wy):List AV:=[XJ s]
abbrev caL(c:Ca)(k:Bool):List AV:=[.v (.int .i64 c.ways),.sl 1 (c.sets.map cB) k]
abbrev rqL(x:Req):List AV:=[.v (.int .i64 x.kind),.v (.int .u32 (x.line:Int)),.v (.int .i64 x.left),.v (.string x.data)]
def XK(o:Option Nat):AV:=.tup [vN (o.getD 0),vB o.isSome]
structure Wy.ok(x:Wy):Prop where
 line:x.line≤4294967295
structure Ca.ok(c:Ca):Prop where
 sets:c.sets.length≤9223372036854775807
 set:∀ s∈c.sets,s.length≤9223372036854775807∧∀ x∈s,x.ok
theorem dF{a:Nat}(h:a≤4294967295):lineOf a≤4294967295:=by unfold lineOf;omega
theorem XL{a b:Nat}(h:a=b):AV.v (.int .u32 (a:Int))=.v (.int .u32 (b:Int)):=by rw[h]
theorem Wz{a b:Nat}(h:a=b):AV.v (.int .i64 (a:Int))=.v (.int .i64 (b:Int)):=by rw[h]
theorem gJ{α:Type}{f:α→List AV}{l:List α}{k:Nat}{x:α}(h:l[k]?=some x):(l.map f)[k]?=some (f x):=by rw[bH,h];rfl
theorem qD(a:Nat)(ha:a≤4294967295):bY C0 92 [vU a] (vU (lineOf a)):=by
 refine bY.intro c0Ok Tryz.func92 rfl rfl (by kernel_rfl) rfl<|aE<|aG rfl<|oR 1 rfl<|rE 1<|aE<|aG rfl<|oR 2 rfl ?_;have b1:a % 16≤15:=aT (bG _ (by decide));refine nW (vU (a % 16)) rfl rfl (by decide) ?_;have b2:(a+4294967296 - (a % 16)) % 4294967296≤4294967295:=aT (bG _ (by decide));refine rW (vU ((a+4294967296 - (a % 16)) % 4294967296)) rfl (okI (Se b1 rfl))<|oR 1 rfl<|rE 6<|cT ?_;exact fT rfl (XL (by unfold lineOf;omega))
theorem SG(c:Ca)(line:Nat)(ck:Bool)(h0:0<c.sets.length)(hl:c.sets.length≤1000000)(hline:line≤4294967295):bY C0 146 [.agg (caL c ck),vU line] (vN (xQ c line)):=by
 refine bY.intro c0Ok Tryz.func146 rfl rfl (by kernel_rfl) rfl<|aE<|aG rfl<|rAl 0 rfl rfl<|oR 1 rfl<|rE 2<|aE<|aG rfl<|oR 1 rfl ?_;have b1:line / 16≤268435455:=kC hline;refine nW (vU (line / 16)) rfl (Jn (Hr b1 rfl)) (by decide)<|oR 2 rfl<|rW (vN c.sets.length) rfl (bQ cB c.sets)<|rW (vU c.sets.length) rfl (okI (Hr hl rfl)) ?_;have b2:(line / 16) % c.sets.length≤268435455:=aL (nG _ _) b1;refine nW (vU ((line / 16) % c.sets.length)) rfl rfl omT<|rW (vN ((line / 16) % c.sets.length)) rfl (okI (bS b2 rfl))<|oR 1 rfl<|rE 11<|cT ?_;exact fT rfl rfl
theorem My{s:List Wy}{line k:Nat}{x:Wy}(hx:s[k]?=some x)(hn: ¬ x.line=line)(h:jN s line=(jN (s.drop k) line).map (· +k)):jN s line=(jN (s.drop (k+1)) line).map (· +(k+1)):=by
 obtain⟨hk,hx'⟩:=Db.1 hx;rw[h,eD hk,hx'];simp only[jN,if_neg hn,Option.map_map];congr 1;funext i;show i+1+k=i+(k+1);omega
theorem Mz{s:List Wy}{line k:Nat}{x:Wy}(hx:s[k]?=some x)(hn:x.line=line)(h:jN s line=(jN (s.drop k) line).map (· +k)):jN s line=some k:=by
 obtain⟨hk,hx'⟩:=Db.1 hx;rw[h,eD hk,hx'];simp[jN,hn]
theorem OV{s:List Wy}{line k:Nat}(hk:s.length≤k)(h:jN s line=(jN (s.drop k) line).map (· +k)):jN s line=none:=by
 rw[h,eF hk];rfl
theorem SH(s:List Wy)(line:Nat)(ck:Bool)(hs:s.length≤1000000)(ho:∀ x∈s,x.ok)(hline:line≤4294967295):bY C0 147 [.sl 3 (s.map wyL) ck,vU line] (XK (jN s line)):=by
 refine bY.intro c0Ok Tryz.func147 rfl rfl (by kernel_rfl) rfl<|aE<|aG rfl<|oR 2 rfl<|rE 2<|aE<|aE<|aG rfl<|oR 1 rfl<|rW (vN s.length) rfl (bQ wyL s)<|oR 1 rfl<|rE 5<|bI<|kZ (κ:=Nat) (λ k=>⟨cI [(1,vU line),(8,.sl 3 (s.map wyL) ck),(9,vN s.length),(10,vN k)],heapF [],5⟩) (λ k=>k≤s.length∧jN s line=(jN (s.drop k) line).map (· +k)) (λ k=>s.length - k) 0 (λ s=>s) (Weak.of_lists (λ s=>s) wT trivial rfl) (⟨aF _,by simp⟩) ?_;intro k hk;have hkB:k≤1000000:=by have:=hk.1;omega
 refine aE<|aG rfl<|rW (vB (decide (k<s.length))) rfl (okB (ltN _ _))<|rE 6<|aE ?_;refine aU rfl (λ h1=>?_) (λ h1=>?_)
 ·refine aZ<|aE<|bI<|aE<|aG rfl<|oR 1 rfl ?_;obtain⟨x,hx⟩:∃ x,s[k]?=some x:=⟨_,aA (of_decide_eq_true h1)⟩;have hxo:=ho x (aB hx);refine rIx (wyL x) (.dp 3 0 (wyL x)) rfl rfl (gJ hx) rfl<|oR 1 rfl<|rAl 9 rfl rfl<|oR 1 rfl<|rSt rfl<|rE 12<|aE<|aG rfl<|oR 3 rfl<|rW (vB (x.line==line)) rfl (okB (eqN _ _))<|rE 16 ?_;refine aU rfl (λ h2=>?_) (λ h2=>?_)
  ·refine aE<|aG rfl<|oR 3 rfl<|rE 19<|cT ?_;exact fT rfl (by rw[Mz hx (by simpa using h2) hk.2];rfl)
  ·refine aZ<|aG rfl ?_;have b1:k+1≤1000001:=aH hkB (aC 1);refine rW (vN (k+1)) rfl (okI (bS b1 rfl))<|oR 1 rfl<|rE 18 ?_;refine⟨k+1,λ s=>s,Weak.of_lists _ wT trivial rfl,⟨of_decide_eq_true h1,My hx (by simpa using h2) hk.2⟩,by have:=of_decide_eq_true h1;show s.length - (k+1)<s.length - k;omega⟩
 ·refine eA<|aE<|aG rfl<|oR 2 rfl<|rE 8<|cT ?_;exact fT rfl (by rw[OV (by have:=aD h1;omega) hk.2];rfl)
def EF(c:Ca)(k:Nat)(s:List Wy)(i:Nat)(x:Wy):Prop:=lineOf x.line=x.line∧xQ c x.line=k∧(x.data.size=0∨x.data.size=16)∧jN (s.take i) x.line=none
theorem mA(c:Ca)(k:Nat)(s:List Wy):vR c k s=true↔(s.length:Int)≤c.ways∧∀ i x,s[i]?=some x→EF c k s i x:=by
 unfold vR EF;simp only[aK,bC,qI,mT];refine and_congr_right λ _=>⟨λ h i x hx=>?_,λ h i hi=>?_⟩
 ·have:=h i (Db.1 hx).1;rw[hx]at this;simp only[aK,dG,bC,iD]at this;exact⟨this.1.1.1,this.1.1.2,this.1.2,this.2⟩
 ·rw[aA hi];have:=h i _ (aA hi);simp only[aK,dG,bC,iD];exact⟨⟨⟨this.1,this.2.1⟩,this.2.2.1⟩,this.2.2.2⟩
theorem mF(c:Ca):fY c=true↔((c.sets.length=1∨c.sets.length=2∨c.sets.length=4)∧(c.ways=1∨c.ways=2))∧∀ k s,c.sets[k]?=some s→vR c k s=true:=by
 unfold fY;simp only[aK,dG,bC,qI,mT];refine and_congr ?_ ⟨λ h k s hs=>?_,λ h k hk=>?_⟩
 ·rw[or_assoc]
 ·have:=h k (Db.1 hs).1
  rwa [hs]at this
 ·rw[aA hk];exact h k _ (aA hk)
theorem wR{c:Ca}(h: ¬ fY c=true):fY c=false:=by simpa using h
theorem Ae{n:Nat}{w:Int}(h:cA (cA (cA (n != 1) (n != 2) false) (n != 4) false) true (cA (w != 1) (w != 2) false)=false):(n=1∨n=2∨n=4)∧(w=1∨w=2):=by
 simp only[c2]at h;constructor
 ·by_cases h1:n=1<;>by_cases h2:n=2<;>by_cases h4:n=4<;>simp_all
 ·by_cases h1:w=1
  ·exact .inl h1
  ·by_cases h2:w=2
   ·exact .inr h2
   ·simp[h1,h2]at h;omega
theorem ID{n:Nat}{w:Int}(h:cA (cA (cA (n != 1) (n != 2) false) (n != 4) false) true (cA (w != 1) (w != 2) false)=true): ¬ ((n=1∨n=2∨n=4)∧(w=1∨w=2)):=by
 rintro ⟨rfl|rfl|rfl,rfl|rfl⟩<;>simp[cA]at h
theorem TY{c:Ca}{k j:Nat}{s:List Wy}{x:Wy}(h1:cA ((lineOf x.line) != x.line) true ((xQ c x.line) != k)=false)(h2:cA ((x.data.size:Int) != 0) ((x.data.size:Int) != 16) false=false)(h3:(jN (s.take j) x.line).isSome=false):EF c k s j x:=by
 simp only[c2]at h1 h2;refine⟨?_,?_,?_,by simpa using h3⟩
 ·by_cases h:lineOf x.line=x.line<;>simp_all
 ·by_cases h:xQ c x.line=k<;>simp_all
 ·by_cases h:x.data.size=0
  ·exact .inl h
  ·right;simp_all;omega
theorem Rq{c:Ca}{k j:Nat}{s:List Wy}{x:Wy}(h:cA ((lineOf x.line) != x.line) true ((xQ c x.line) != k)=true): ¬ EF c k s j x:=λ q=>by
 rw[q.1,q.2.1]at h;simp[cA]at h
theorem Rr{c:Ca}{k j:Nat}{s:List Wy}{x:Wy}(h:cA ((x.data.size:Int) != 0) ((x.data.size:Int) != 16) false=true): ¬ EF c k s j x:=λ q=>by
 rcases q.2.2.1 with e|e<;>rw[e]at h<;>simp[cA]at h
theorem Rs{c:Ca}{k j:Nat}{s:List Wy}{x:Wy}(h:(jN (s.take j) x.line).isSome=true): ¬ EF c k s j x:=λ q=>by
 rw[q.2.2.2]at h;cases h
theorem MA{c:Ca}{k:Nat}{s:List Wy}(hs:c.sets[k]?=some s)(h:vR c k s=true)(hk:∀ i s,i<k→c.sets[i]?=some s→vR c i s=true):∀ i s,i<k+1→c.sets[i]?=some s→vR c i s=true:=λ i s' hi hs'=>by
 by_cases e:i=k
 ·subst e;rw[hs]at hs';injection hs' with e;exact e ▸ h
 ·exact hk i s' omT hs'
theorem Rt{c:Ca}{k j:Nat}{s:List Wy}{x:Wy}(hx:s[j]?=some x)(h:EF c k s j x)(hj:∀ i x,i<j→s[i]?=some x→EF c k s i x):∀ i x,i<j+1→s[i]?=some x→EF c k s i x:=λ i x' hi hx'=>by
 by_cases e:i=j
 ·subst e;rw[hx]at hx';injection hx' with e;exact e ▸ h
 ·exact hj i x' omT hx'
theorem Bo(c:Ca)(ck:Bool)(hok:c.ok):bY C0 85 [.agg (caL c ck)] (vB (fY c)):=by
 refine bY.intro c0Ok Tryz.func85 rfl rfl (by kernel_rfl) rfl<|aE<|aG rfl<|rAl 0 rfl rfl<|oR 1 rfl<|rE 2<|aE<|aG rfl<|oR 2 rfl<|rW (vN c.sets.length) rfl (bQ cB c.sets)<|oR 1 rfl<|rE 6<|aE<|aE<|aG rfl<|oR 1 rfl ?_;refine rW (vB (c.sets.length != 1)) rfl (okB (neN _ _))<|oR 1 rfl<|gN rfl<|gBS (x:=vB (c.sets.length != 2)) rfl id (okB (neN _ _))<|cH rfl rfl rfl (λ h=>h)<|oR 1 rfl<|gN rfl<|gBS (x:=vB (c.sets.length != 4)) rfl id (okB (neN _ _))<|cH rfl rfl rfl (λ h=>h)<|oR 1 rfl<|gN rfl<|gS rfl id<|gBS (x:=vB (c.ways != 1)) rfl id rfl<|gS rfl id<|gN rfl<|gS rfl id ?_;refine gBS (x:=vB (c.ways != 2)) rfl id rfl<|vK (x:=vB (cA (c.ways != 1) (c.ways != 2) false)) (g:= !(cA (cA (c.sets.length != 1) (c.sets.length != 2) false) (c.sets.length != 4) false)) rfl rfl rfl rfl (λ h=>h) rfl rfl (λ hg hc=>by first|(rw[hg,hc];rfl)|simp_all)<|cH rfl rfl rfl (by simp)<|rE 26 ?_;refine aU rfl (λ h1=>?_) (λ h1=>?_)
 ·refine aE<|aG rfl<|oR 1 rfl<|rE 27<|cT ?_;exact fB (x:=false) rfl (wR (c:=c) (λ q=>ID h1 ((mF c).1 q).1)).symm
 ·refine aZ<|aE<|aE<|aG rfl<|oR 2 rfl<|rW (vN c.sets.length) rfl (bQ cB c.sets)<|oR 1 rfl<|rE 30<|bI<|kZ (κ:=Nat) (λ k=>⟨cI [(1,.ptr 0 0),(3,vN c.sets.length),(34,.sl 1 (c.sets.map cB) ck),(35,vN c.sets.length),(36,vN k)],heapF [(0,.box [vI c.ways,.sl 1 (c.sets.map cB) ck])],30⟩) (λ k=>k≤c.sets.length∧∀ i s,i<k→c.sets[i]?=some s→vR c i s=true) (λ k=>c.sets.length - k) 0 (λ s=>s) (Weak.of_lists (λ s=>s) wT wH rfl) (⟨aF _,λ i s h=>absurd h (dX i)⟩) ?_;intro k hk;have hkB:k≤1000000:=by have:=hk.1;have:=(Ae h1).1;omega
  refine aE<|aG rfl<|rW (vB (decide (k<c.sets.length))) rfl (okB (ltN _ _))<|rE 31<|aE ?_;refine aU rfl (λ h2=>?_) (λ h2=>?_)
  ·refine aZ<|aE<|bI<|aE<|aG rfl<|oR 1 rfl ?_;obtain⟨s,hs⟩:∃ s,c.sets[k]?=some s:=⟨_,aA (of_decide_eq_true h2)⟩;have hso:=hok.set s (aB hs);refine rIx (cB s) (.dp 1 0 (cB s)) rfl rfl (gJ hs) rfl<|oR 3 rfl<|rE 36<|aE<|aE<|aG rfl<|oR 1 rfl<|rW (vN s.length) rfl (bQ wyL s)<|oR 2 rfl<|rV (vB (decide (((s.length:Nat):Int)>c.ways))) rfl<|rE 41 ?_;refine aU rfl (λ h3=>?_) (λ h3=>?_)
   ·refine aE<|aG rfl<|oR 1 rfl<|rE 42<|cT ?_;exact fB (x:=false) rfl (wR (c:=c) (λ q=>absurd ((mA c k s).1 (((mF c).1 q).2 k s hs)).1 (by have:=of_decide_eq_true h3;omega))).symm
   ·refine aZ<|aE<|aG rfl<|oR 1 rfl<|rW (vN s.length) rfl (bQ wyL s)<|oR 1 rfl<|rE 44<|bI<|kZ (κ:=Nat) (λ j=>⟨cI [(1,.ptr 0 0),(3,vN c.sets.length),(34,.sl 1 (c.sets.map cB) ck),(35,vN c.sets.length),(36,vN k),(4,vN k),(5,.sl 3 (s.map wyL) false),(46,.sl 3 (s.map wyL) false),(47,vN s.length),(48,vN j)],heapF [(0,.box [vI c.ways,.sl 1 (c.sets.map cB) ck])],44⟩) (λ j=>j≤s.length∧∀ i x,i<j→s[i]?=some x→EF c k s i x) (λ j=>s.length - j) 0 (λ s=>s) (Weak.of_lists (λ s=>s) wT wH rfl) (⟨aF _,λ i s h=>absurd h (dX i)⟩) ?_;intro j hj;have hjB:j≤1000000:=by have:=hj.1;have:=(Ae h1).2;have:=aD h3;omega
    refine aE<|aG rfl<|rW (vB (decide (j<s.length))) rfl (okB (ltN _ _))<|rE 45<|aE ?_;refine aU rfl (λ h4=>?_) (λ h4=>?_)
    ·refine aZ<|aE<|bI<|aE<|aG rfl<|oR 1 rfl ?_;obtain⟨x,hx⟩:∃ x,s[j]?=some x:=⟨_,aA (of_decide_eq_true h4)⟩;have hxo:=hso.2 x (aB hx);refine rIx (wyL x) (.dp 3 0 (wyL x)) rfl rfl (gJ hx) rfl<|oR 1 rfl<|rAl 48 rfl rfl<|oR 1 rfl<|rSt rfl<|rE 51<|aE<|aE<|aG rfl<|oR 2 rfl<|rCi rfl (qD x.line hxo.line)<|oR 2 rfl<|rW (vB ((lineOf x.line) != x.line)) rfl (okB (neN _ _))<|oR 1 rfl<|gN rfl<|gN rfl ?_;refine gS rfl id<|jI (args:=[.agg [vI c.ways,.sl 1 (c.sets.map cB) ck],vU x.line]) (x:=vN (xQ c x.line)) (g:= !((lineOf x.line) != x.line)) rfl rfl rfl rfl (λ h=>by simp_all) rfl rfl rfl (.inl rfl) rfl (λ hg=>SG c x.line ck (by have:=of_decide_eq_true h2;omega) (by have:=(Ae h1).1;omega) hxo.line)<|gN rfl<|gBS (x:=vB ((xQ c x.line) != k)) rfl (λ h=>by simp_all) (okB (neN _ _))<|cH rfl rfl rfl (by simp)<|rE 65 ?_;refine aU rfl (λ h5=>?_) (λ h5=>?_)
     ·refine aE<|aG rfl<|oR 1 rfl<|rE 66<|cT ?_;exact fB (x:=false) rfl (wR (c:=c) (λ q=>Rq h5 (((mA c k s).1 (((mF c).1 q).2 k s hs)).2 j x hx))).symm
     ·refine aZ<|aE<|aE<|aG rfl<|oR 2 rfl<|rV (vI (x.data.size:Int)) rfl<|rV (vB ((x.data.size:Int) != 0)) rfl<|oR 1 rfl<|gN rfl<|gS rfl id<|gBS (x:=vI (x.data.size:Int)) rfl id rfl<|gBS (x:=vB ((x.data.size:Int) != 16)) rfl id rfl<|cH rfl rfl rfl (λ h=>h)<|rE 75 ?_;refine aU rfl (λ h6=>?_) (λ h6=>?_)
      ·refine aE<|aG rfl<|oR 1 rfl<|rE 76<|cT ?_;exact fB (x:=false) rfl (wR (c:=c) (λ q=>Rr h6 (((mA c k s).1 (((mF c).1 q).2 k s hs)).2 j x hx))).symm
      ·refine aZ<|aE<|aG rfl<|oR 2 rfl<|nW (.sl 3 (List.drop 0 (List.take j (s.map wyL))) false) rfl rfl (⟨kH _,aI _,by show (j:Int)≤(((s.map wyL).length:Nat):Int);rw[aO];have:=of_decide_eq_true h4;omega⟩)<|oR 2 rfl<|rCl (x:=.tup [vN ((jN (s.take j) x.line).getD 0),vB ((jN (s.take j) x.line).isSome)]) rfl (.inl rfl) (by show bY C0 _ [.sl 3 (List.drop 0 (List.take j (s.map wyL))) false,_] _;rw[cQ, ←fO];exact SH (s.take j) x.line false (by rw[aQ];omega) (λ y hy=>hso.2 y (cO hy)) hxo.line)<|oR 5 rfl<|rE 86<|aE<|aG rfl<|oR 1 rfl<|rE 87 ?_;refine aU rfl (λ h7=>?_) (λ h7=>?_)
       ·refine aE<|aG rfl<|oR 1 rfl<|rE 88<|cT ?_;exact fB (x:=false) rfl (wR (c:=c) (λ q=>Rs h7 (((mA c k s).1 (((mF c).1 q).2 k s hs)).2 j x hx))).symm
       ·refine aZ<|aG rfl ?_;have b1:j+1≤1000001:=aH hjB (aC 1);refine rW (vN (j+1)) rfl (okI (bS b1 rfl))<|oR 1 rfl<|rE 89 ?_;refine⟨j+1,λ s=>s,Weak.of_lists _ wT wH rfl,⟨of_decide_eq_true h4,Rt hx (TY h5 h6 h7) hj.2⟩,by have:=of_decide_eq_true h4;show s.length - (j+1)<s.length - j;omega⟩
    ·refine eA<|aG rfl ?_;have b2:k+1≤1000001:=aH hkB (aC 1);refine rW (vN (k+1)) rfl (okI (bS b2 rfl))<|oR 1 rfl<|rE 47 ?_;refine⟨k+1,λ s=>s,Weak.of_lists _ wT wH rfl,⟨of_decide_eq_true h2,MA hs ((mA c k s).2 ⟨by have:=aD h3;omega,λ i y hy=>hj.2 i y (by have:=(Db.1 hy).1;have:=aD h4;omega) hy⟩) hk.2⟩,by have:=of_decide_eq_true h2;show c.sets.length - (k+1)<c.sets.length - k;omega⟩
  ·refine eA<|aE<|aG rfl<|oR 1 rfl<|rE 32<|cT ?_;exact fB (x:=true) rfl ((mF c).2 ⟨Ae h1,λ i s hs=>hk.2 i s (by have:=(Db.1 hs).1;have:=aD h2;omega) hs⟩).symm
def VN:AV:=.sl 0 [] true
theorem uP(rs:Nat)(c:Bool):Sub (.sl 0 [] true) (.sl rs [] c):=λ S w v h=>by
 cases h with
 |sl _ _ _ A c0 b o u hc hm hcl hrs hA hw h1 hr=>exact .sl rs [] c A c0 b o u hc hm (λ _=>hcl rfl) (λ _ h=>by cases h) (λ h=>absurd h (gX 0)) (λ i row j a h=>by simp at h) h1 λ i row j a h=>by simp at h
end Go.Proofs.YtlhofpglndhfaaaGreatDoor
