import Derived.Deep.DeepCutAuto
import Derived.Test.YtiaekocjeinkjaaGreatDoorS23
set_option linter.all false
namespace Go.Proofs.YtiaekocjeinkjaaGreatDoor
open Go.Proofs.Tryz
open Go.RowKit Go.Maps
set_option maxHeartbeats 2000000 in
theorem UO(agN : Int)(busy:Bool)(kinds:List Int)(can:List Bool)(B0 nk nc:Nat)(vk vc:Value)(w:World)(hk:Sl B0 3 1 w vk nk (kinds.flatMap λa=>[.int .i64 a]))(hc:Sl B0 4 1 w vc nc (can.flatMap λa=>[.bool a]))
    (hnk:nk=kinds.length) (hnc:nc=can.length) (hlk:nk<=100000) (hlc:nc<=100000):
    Calls Tryz.prog 139 #[.int .i64 agN,.bool busy,vk,vc] w λe w'=>∃v,e=.returned v/\w'.ownsRow w.heap.size 3 1 v (kj agN busy kinds can).length ((kj agN busy kinds can).flatMap λn:Nat=>[.int .i64 n])/\Below w.heap.size w w':=by
  obtain⟨Ak,ck,rfl,k1,k2, -, -⟩:=id hk;obtain⟨Ac,cc,rfl,c1,c2, -, -⟩:=id hc;have HNK:=Lib.hid hnk;have HNC:=Lib.hid hnc;clear hnk hnc;have hmm:= @run_makeMap Tryz.prog;have hT0:=fu.made w;have hB0:=cK (w:=w) (.map #[] 0)
  go_enter func139,ntmps139
  go_wp2_with fail
  go_step3
  go_upto_if 16 with (fail)
  go_cut [17] (λ_ wx=>∃n1,fu wx w.heap.size n1 busy false/\n1<=1/\Below w.heap.size w wx)
  case first=>
    cases busy with
    | false=>
      go_wp2_with fail
      go_meet
      case rel=>exact⟨0,hT0,oT,hB0⟩
    | true=>
      obtain⟨w1,hr,hT,hg⟩:=hT0.YP oT;have HT:=Lib.hid hT;clear hT
      go_wp2_with fail
      go_meet
      case rel=>exact⟨1,sU HT.out,oT,hB0.grown hg (by simp) (λj hj=>by cases hj;exact aC _)⟩
  case rest =>
    obtain⟨n1,hT1,hn1,hB1⟩:=hcut
    go_wp2_with fail
    go_step3
    go_wp2_with fail
    go_loopw [10,11,12,13,14,20] (λo _ _ _ _ i wr=>∃(k n:Nat) (A:Option Addr) (c:Nat),i=.int .i64 k/\k<=nc/\o=.slice A (kA agN busy kinds can k).out.length c/\n<=k+1/\
        fu wr w.heap.size n (kA agN busy kinds can k).t1 (kA agN busy kinds can k).t2/\
        wr.ownsRow w.heap.size 3 1 (.slice A (kA agN busy kinds can k).out.length c) (kA agN busy kinds can k).out.length ((kA agN busy kinds can k).out.flatMap λn:Nat=>[.int .i64 n])/\Below w.heap.size w wr)
      (λ_ _ _ _ _ i _=>nc-(intOf i).toNat)
    case atStart=>exact⟨0,n1,none,0,R,aE _,R,oT,hT1,World.ownsRow_nil _ _ _ _,hB1⟩
    case round=>
      obtain⟨k,n,A,c,rfl,hkn,rfl,hnk,hT,hown,hb⟩:=hrel;by_cases hlt:k<nc
      · obtain ⟨bc,oc,x,rfl,hx,hbc,qc⟩:=hc.one Value.bool hb HNC.out hlt
        have hsucc:Hid (kA agN busy kinds can (k+1)=IW agN kinds (kA agN busy kinds can k) k x):=by
          show _=_;simp only[kA,List.getD,hx,gI]
        have hfull:=Lib.hid (KG (agN:=agN) (busy:=busy) (kinds:=kinds) (can:=can) (k:=k));have hle:=Fv (agN:=agN) (busy:=busy) (kinds:=kinds) (can:=can) k;have hfin:Hid (agN<=(kA agN busy kinds can k).out.length->(kj agN busy kinds can)=(kA agN busy kinds can k).out):=by
          intro h;unfold kj;rw[<-HNC.out,(oT:nc=k+(nc-k)),hfull.out h]
        clear hx;generalize kA agN busy kinds can k=s at *;obtain⟨out,t1,t2⟩:=s;dsimp only at *;have hws:=hb.size;have hbr:bc<wr.heap.size:=e5 hbc hws;by_cases hw:agN<=out.length
        · have hw':decide (agN<=(out.length:Int))=true:=sU hw
          have HF:=Lib.hid (hfin.out hw);clear hfin hfull hsucc
          go_wp2_with fail
          rw[Exit.noGoto_ret]
          go_ret
          refine⟨_,R,?_,hb⟩;rw[HF.out];exact hown
        · have hw' : decide (agN<=(out.length:Int))=false:=sU hw
          cases x with
          | false=>
            have HS:Hid (kA agN busy kinds can (k+1)=⟨out,t1,t2⟩):=hsucc.out.trans (by simp[IW]);clear hfin hfull hsucc
            go_wp2_with fail
            go_roundw
            case rel=>exact⟨k+1,n,A,c,by go_num,oT,by rw[HS.out],oT,by rw[HS.out];exact hT,by rw[HS.out];exact hown,hb⟩
            case measure=>simp[intOf];omega
          | true=>
            obtain⟨lk1,lk2⟩:=hT.look;have hkd:(∃bk ok,Ak=some ⟨bk,ok,none⟩/\wr.cell? ⟨bk,ok+k,none⟩=some (.int .i64 (Cx kinds k))/\k<nk)\/(¬k<nk/\Cx kinds k=0):=by
              by_cases hik:k<nk
              · obtain⟨bk,ok,y,rfl,hy, -,qk⟩:=hk.one (Value.int .i64) hb HNK.out hik
                refine .inl ⟨bk,ok,R,?_,hik⟩;rw[qk];simp[Cx,List.getD,hy]
              · refine .inr ⟨hik,?_⟩
                have:=HNK.out;simp[Cx,List.getD,bE (oT:kinds.length<=k)]
            obtain⟨y,hy⟩:∃y,y=Cx kinds k:=⟨_,R⟩;have hu:rM y=0\/(rM y=1/\t1=true)\/(rM y=2/\t2=true)\/(rM y=1/\t1=false)\/(rM y=2/\t2=false):=by
              have:rM y=0\/rM y=1\/rM y=2:=by unfold rM;split<;>(try split)<;>simp
              rcases this with h|h|h<;>cases t1<;>cases t2<;>simp[h]
            have hst:Hid (kA agN busy kinds can (k+1)=if RF kinds ⟨out,t1,t2⟩ k=true then⟨out,t1,t2⟩else⟨out++[k],t1||rM y==1,t2||rM y==2⟩):=by
              refine hsucc.out.trans ?_;simp only[IW,hy];rw[dZ (sU hw)];simp
            have hbar:Hid (RF kinds ⟨out,t1,t2⟩ k=((rM y==1&&t1)||(rM y==2&&t2))):=by show _=_;rw[hy];rfl
            rw[<-hy]at hkd;clear hy hfin hfull hsucc;rcases hu with hu|⟨hu,rfl⟩|⟨hu,rfl⟩|⟨hu,rfl⟩|⟨hu,rfl⟩
            · have HS:Hid (kA agN busy kinds can (k+1)=⟨out++[k],t1,t2⟩):=by show _=_;rw[hst.out,hbar.out,hu];simp
              obtain⟨c0,w1,k1,k2,hr0,hr,hT1',hg⟩:=hT.YG oT;have HU:=Lib.hid hu;clear hu hst hbar;have hown1:=hown.kept hg (hT.ne hown);have hb1:=hb.grown hg hws (λj hj=>by cases hj;exact aC _);have hws1:=hb1.size;rcases hkd with ⟨bk,ok,rfl,qk,hik⟩|⟨hik,rfl⟩
              all_goals
                go_wp2_with (first
                  |(go_at_call 181;refine(Cy _ _ HU.out _).mono ?_;rintro e w' ⟨rfl,rfl⟩)
                  | (at_builtin
                     refine Af IY rfl (.tmp 53) (.tmp 55) rfl w.heap.size (.slice A out.length c) out.length _ rfl hown1 oT hws1 w1.heap.size rfl rfl rfl rfl ?_;intro g' cap' w3 hown3 hb3 hg3))
                go_roundw
                case rel=>exact⟨k+1,n+1,some ⟨g',0,none⟩,cap',by go_num,oT,by rw[HS.out];simp,oT,by rw[HS.out];exact(hT1'.kept (cK _)).grown hg3 (by rcases hT1'.ne hown1 with h|h<;>simp[h]<;>exact λh'=>h h'.symm),by rw[HS.out];simpa using hown3,(hb1.alloc hws1 _).trans hb3⟩
                case measure=>simp[intOf];omega
            · have HS:Hid (kA agN busy kinds can (k+1)=⟨out,true,t2⟩):=by show _=_;rw[hst.out,hbar.out,hu];simp
              have HU:=Lib.hid hu;clear hu hst hbar;rcases hkd with ⟨bk,ok,rfl,qk,hik⟩|⟨hik,rfl⟩
              all_goals
                go_wp2_with (go_at_call 181;refine(Cy _ _ HU.out _).mono ?_;rintro e w' ⟨rfl,rfl⟩)
                go_roundw
                case rel=>exact⟨k+1,n,A,c,by go_num,oT,by rw[HS.out],oT,by rw[HS.out];exact hT,by rw[HS.out];exact hown,hb⟩
                case measure=>simp[intOf];omega
            · have HS:Hid (kA agN busy kinds can (k+1)=⟨out,t1,true⟩):=by show _=_;rw[hst.out,hbar.out,hu];simp
              have HU:=Lib.hid hu;clear hu hst hbar;rcases hkd with ⟨bk,ok,rfl,qk,hik⟩|⟨hik,rfl⟩
              all_goals
                go_wp2_with (go_at_call 181;refine(Cy _ _ HU.out _).mono ?_;rintro e w' ⟨rfl,rfl⟩)
                go_roundw
                case rel=>exact⟨k+1,n,A,c,by go_num,oT,by rw[HS.out],oT,by rw[HS.out];exact hT,by rw[HS.out];exact hown,hb⟩
                case measure=>simp[intOf];omega
            · have HS:Hid (kA agN busy kinds can (k+1)=⟨out++[k],true,t2⟩):=by show _=_;rw[hst.out,hbar.out,hu];simp
              obtain⟨w1,hr,hT1',hg⟩:=hT.YP oT;have HU:=Lib.hid hu;clear hu hst hbar;have hown1:=hown.kept hg (hT.ne hown);have hb1:=hb.grown hg hws (λj hj=>by cases hj;exact aC _);have hws1:=hb1.size;rcases hkd with ⟨bk,ok,rfl,qk,hik⟩|⟨hik,rfl⟩
              all_goals
                go_wp2_with (first
                  |(go_at_call 181;refine(Cy _ _ HU.out _).mono ?_;rintro e w' ⟨rfl,rfl⟩)
                  | (at_builtin
                     refine Af IY rfl (.tmp 53) (.tmp 55) rfl w.heap.size (.slice A out.length c) out.length _ rfl hown1 oT hws1 w1.heap.size rfl rfl rfl rfl ?_;intro g' cap' w3 hown3 hb3 hg3))
                go_roundw
                case rel=>exact⟨k+1,n+1,some ⟨g',0,none⟩,cap',by go_num,oT,by rw[HS.out];simp,oT,by rw[HS.out];exact(hT1'.kept (cK _)).grown hg3 (by rcases hT1'.ne hown1 with h|h<;>simp[h]<;>exact λh'=>h h'.symm),by rw[HS.out];simpa using hown3,(hb1.alloc hws1 _).trans hb3⟩
                case measure=>simp[intOf];omega
            · have HS:Hid (kA agN busy kinds can (k+1)=⟨out++[k],t1,true⟩):=by show _=_;rw[hst.out,hbar.out,hu];simp
              obtain⟨w1,hr,hT1',hg⟩:=hT.YF oT;have HU:=Lib.hid hu;clear hu hst hbar;have hown1:=hown.kept hg (hT.ne hown);have hb1:=hb.grown hg hws (λj hj=>by cases hj;exact aC _);have hws1:=hb1.size;rcases hkd with ⟨bk,ok,rfl,qk,hik⟩|⟨hik,rfl⟩
              all_goals
                go_wp2_with (first
                  |(go_at_call 181;refine(Cy _ _ HU.out _).mono ?_;rintro e w' ⟨rfl,rfl⟩)
                  | (at_builtin
                     refine Af IY rfl (.tmp 53) (.tmp 55) rfl w.heap.size (.slice A out.length c) out.length _ rfl hown1 oT hws1 w1.heap.size rfl rfl rfl rfl ?_;intro g' cap' w3 hown3 hb3 hg3))
                go_roundw
                case rel=>exact⟨k+1,n+1,some ⟨g',0,none⟩,cap',by go_num,oT,by rw[HS.out];simp,oT,by rw[HS.out];exact(hT1'.kept (cK _)).grown hg3 (by rcases hT1'.ne hown1 with h|h<;>simp[h]<;>exact λh'=>h h'.symm),by rw[HS.out];simpa using hown3,(hb1.alloc hws1 _).trans hb3⟩
                case measure=>simp[intOf];omega
      · have hkk:k=nc:=oT
        have HO:Hid ((kA agN busy kinds can k).out=kj agN busy kinds can):=by show _=_;rw[hkk,HNC.out];rfl
        clear hkk
        go_wp2_with fail
        rw[Exit.noGoto_ret]
        go_ret
        exact⟨_,R,by rw[<-HO.out];exact hown,hb⟩
end Go.Proofs.YtiaekocjeinkjaaGreatDoor
