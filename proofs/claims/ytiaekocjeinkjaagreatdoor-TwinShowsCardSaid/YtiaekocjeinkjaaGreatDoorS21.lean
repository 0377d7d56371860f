import Derived.Test.YtiaekocjeinkjaaGreatDoorS5
set_option linter.all false
namespace Go.Proofs.YtiaekocjeinkjaaGreatDoor
open Go.Proofs.Tryz
open Go.RowKit
set_option maxHeartbeats 2000000 in
theorem Mb(v:Nat)(parts:List (Nat×Nat))(B0 n:Nat)(vp:Value)(w:World)(hp:Sl B0 302 2 w vp n (parts.flatMap sE))(hn:n=parts.length)(hok:LA parts)(hl:n<=100)(hv:v<4294967296):
  Calls Tryz.prog 222 #[.int .u32 v,vp] w λe w'=>e=.returned (.int .u32 (tT v parts).1)/\Below w.heap.size w w':=by
 obtain⟨A,c,rfl,h1,h2, -, -⟩:=id hp;have HN:=Lib.hid hn;clear hn
 go_enter func222,ntmps222
 go_wp2_with fail
 go_loopw [0,5,7,10] (λx o _ i wr=>∃k:Nat,i=.int .i64 k/\k<=n/\o=.int .u32 ((parts.take k).foldl Ib (0,v)).1/\x=.int .u32 ((parts.take k).foldl Ib (0,v)).2/\Below w.heap.size w wr) (λ_ _ _ i _=>n-(intOf i).toNat)
 case atStart=>exact⟨0,R,aE _,R,R,rD _⟩
 case round=>
  obtain⟨k,rfl,hk,rfl,rfl,hb⟩:=hrel;have hinv:=BB (parts.take k) (0,v) (by show 0<4294967296;omega) hv (λp hp=>hok.1 p (cQ hp));by_cases hkn:k<n
  .obtain⟨b,off,p,rfl,hx,hbl,q1,q2⟩:=hp.span HN.out hb hkn;obtain⟨p1,p2⟩:=hok.1 p (aB hx);have hst:=Lib.hid (EI Ib (0,v) parts k p hx);clear hx;generalize (parts.take k).foldl Ib (0,v)=s at *;obtain⟨s1,s2⟩:=s;obtain⟨i1,i2⟩:=hinv;dsimp only at i1 i2;have hws:=hb.size;have hbr:b<wr.heap.size:=e5 hbl hws;have hsh:((s2:Int)/2 ^ p.2)=((s2/2 ^ p.2:Nat):Int):=by simp
   have HSH:=Lib.hid hsh;clear hsh
   go_wp2_with (go_at_call 223;refine(Qe s1 p.1 p.2 s2 _ p1 p2 i1 i2).mono ?_;rintro e w3 ⟨rfl,B3⟩;have hc3:=B3.cell (p:=⟨wr.heap.size,1,none⟩) (by simp);have hb3:Below w.heap.size w w3:=(hb.alloc hws _).trans (B3.mono (by simp;omega));clear B3)
   go_roundw
   case rel=>exact⟨k+1,by go_num,oT,by rw[hst.out];rfl,by rw[hst.out];simp only[Ib];rw[<-HSH.out],hb3⟩
   case measure=>simp[intOf];omega
  .have hkk:k=n:=oT;have hfin:Hid (parts.take k=parts):=by show _=_;rw[hkk,HN.out,cH]
   clear hkk hinv
   go_wp2_with fail
   go_ret
   exact⟨by rw[hfin.out];rfl,hb⟩
end Go.Proofs.YtiaekocjeinkjaaGreatDoor
