/- Lemmas. -/
import Derived.Test.YtdhclfgoomldfaaGreatDoorS1
import Derived.Test.YtdhclfgoomldfaaGreatDoorS15
set_option linter.all false
namespace Go.Proofs.YtdhclfgoomldfaaGreatDoor
open Go.Proofs.Tryz
open Go.RowKit
def kZ(size:Int)(b:Nat)(a:Int):Bool:=decide (a=1∨a=2∨a=4)&&(decide (0<=size)&&(decide ((b:Int)%a=0)&&decide ((b:Int)+a<=size)))
def UD(size)(agZ:Nat)(many)(w)(h1:many≠1)(h2:many≠2)(h4:many≠4):Calls Tryz.prog 64 #[.int .i64 size,.int .u32 agZ,.int .i64 many] w λe w'=>e=.returned (.bool (kZ size agZ many))∧w=w':=by
 have hv:Hid (kZ size agZ many=false):=by
  show _=_;unfold kZ;rw[show decide _=false by simp[h1,h2,h4]];rfl
 have m1:(many==(1:Int))=false:=sU h1;have m2:(many==(2:Int))=false:=sU h2;have m4:(many==(4:Int))=false:=sU h4
 go_enter func64,ntmps64
 go_wp2_with fail
 go_ret
 exact⟨by rw[hv.out];rfl,rfl⟩
set_option maxHeartbeats 4000000 in
theorem Ru(size)(agZ:Nat)(many)(w)(hs:size<9223372036854775808)(ha:agZ<4294967296):Calls Tryz.prog 64 #[.int .i64 size,.int .u32 agZ,.int .i64 many] w λe w'=>e=.returned (.bool (kZ size agZ many))∧w=w':=by
 by_cases h1:many≠1∧many≠2∧many≠4
 ·exact UD size agZ many w h1.1 h1.2.1 h1.2.2
 have hc:many=1∨many=2∨many=4:=oT;clear h1;by_cases h0:size<0
 ·have hv:Hid (kZ size agZ many=false):=by
   show _=_;unfold kZ;rw[show decide (0<=size)=false from sW oT];simp
  have d0:decide _=true:=sU h0;rcases hc with rfl|rfl|rfl
  all_goals
   go_enter func64,ntmps64
   go_wp2_with fail
   go_ret
   exact⟨by rw[hv.out];rfl,rfl⟩
 ·have d0:decide (size<0)=false:=sU h0;have hv:Hid (kZ size agZ many=(decide ((agZ:Int)%many=0)&&decide ((agZ:Int)+many<=size))):=by
   show _=_;unfold kZ;rw[(sU hc:decide _=true),show decide _=true from jP oT];rfl
  have hsz:0<=size:=oT;clear h0;rcases hc with rfl|rfl|rfl
  all_goals
   go_enter func64,ntmps64
   go_wp2_with fail
   all_goals
    go_ret
    refine⟨zJ ?_,rfl⟩;rw[hv.out]
    first
     |rfl
     |(simp[*,decide_true,decide_false,kL,pW,Bool.and_true,Bool.and_false];done)
     |(rw[bB];simp;done)
     |(rw[bB];simp;omega)
def c6(s:List UInt8):Nat->Nat
 |0=>0
 |k+1=>c6 s k+256 ^ k*(s.getD k 0).toNat
theorem yK(s:List UInt8):∀k,c6 s k<256 ^ k
 |0=>by show 0<1;exact Nat.one_pos
 |k+1=>by
  have h:=yK s k;have a:(s.getD k 0).toNat<256:=(s.getD k 0).toNat_lt;show c6 s k+256 ^ k*(s.getD k 0).toNat<256 ^ (k+1);rw[Nat.pow_succ];have:256 ^ k*(s.getD k 0).toNat<=256 ^ k*255:=Nat.mul_le_mul_left _ oT;omega
def NA(k):256 ^ k=2 ^ (8*k):=by rw[Nat.pow_mul]
def Rv(s)(k):c6 s k ||| (s.getD k 0).toNat*2 ^ (8*k)=c6 s (k+1):=by
 have h:=yK s k;rw[NA]at h;rw[Nat.or_comm,fR, <-Nat.two_pow_add_eq_or_of_lt h];show _=c6 s k+256 ^ k*(s.getD k 0).toNat;rw[NA];omega
set_option maxHeartbeats 4000000 in
theorem NB(s)(w)(hs:s.size<=4):Calls Tryz.prog 149 #[.string s] w λe w'=>e=.returned (.tuple #[.int .u32 (c6 s.data.toList s.size),.int .i64 0])∧w=w':=by
 let⟨n,hn⟩:∃n,n=s.size:=⟨_,rfl⟩;have d4:decide ((4:Int)<s.size)=false:=by simp;omega
 go_enter func149,ntmps149
 go_wp2_with fail
 go_loop [4,11] (λx i=>∃k:Nat,i=.int .i64 k∧k<=s.size∧x=.int .u32 (c6 s.data.toList k)) (λ_ i=>s.size-(intOf i).toNat)
 case atStart=>exact⟨0,rfl,aE _,rfl⟩
 case round=>
  obtain⟨k,rfl,hk,rfl⟩:=hrel;by_cases hlt:k<s.size
  ·have hj:=Rv s.data.toList k;have hl:=yK s.data.toList (k+1);have hl0:=yK s.data.toList k;have hb:s[k].toNat=(s.data.toList.getD k 0).toNat:=by
    rw[aR,bQ,aT hlt];rfl
   have hbl:s[k].toNat<256:=s[k].toNat_lt;have hp:256 ^ (k+1)<=4294967296:=aL (bU dT (oT:k+1<=4)) dT;have hp0:256 ^ k<=16777216:=aL (bU dT (oT:k<=3)) dT;rw[<-hb]at hj;have hsh:s[k].toNat*2 ^ (8*k)<4294967296:=by
    rw[<-NA];exact ep (Nat.mul_lt_mul_of_lt_of_le hbl hp0 dT) dT
   have hor:Hid (bits .or .u32 ((c6 s.data.toList k:Nat):Int) ((s[k].toNat:Int)%4294967296*2 ^ (8*k)%4294967296)=((c6 s.data.toList (k+1):Nat):Int)):=by
    show _=_;have e1:((s[k].toNat:Int)%4294967296*2 ^ (8*k)%4294967296)=((s[k].toNat*2 ^ (8*k):Nat):Int):=by
     have e2:(s[k].toNat:Int)%4294967296=(s[k].toNat:Int):=oT;rw[e2];have e3:((s[k].toNat:Int)*2 ^ (8*k))=((s[k].toNat*2 ^ (8*k):Nat):Int):=by simp
     rw[e3];generalize s[k].toNat*2 ^ (8*k)=z at *;omega
    rw[e1,u32_or_nat _ _ oT hsh,hj]
   clear hj hl hl0 hb hbl hp hp0 hsh
   go_wp2_with fail
   go_round
   case rel=>exact⟨k+1,by go_num,oT,by rw[hor.out]⟩
   case measure=>simp[intOf];omega
  ·have hk2:k=s.size:=oT;subst hk2
   go_wp2_with fail
   go_ret2
   exact⟨rfl,rfl⟩
end Go.Proofs.YtdhclfgoomldfaaGreatDoor
