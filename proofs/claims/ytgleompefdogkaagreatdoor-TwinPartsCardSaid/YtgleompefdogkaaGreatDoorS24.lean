/- Joined texts. -/
import Derived.Deep.DeepCutAuto
import Derived.Test.YtgleompefdogkaaGreatDoorS1
import Derived.Test.YtgleompefdogkaaGreatDoorS23
set_option linter.unusedVariables false
set_option linter.unusedSimpArgs false
set_option linter.defProp false
namespace Go.Proofs.YtgleompefdogkaaGreatDoor
open Go.RowKit Go.Maps
set_option maxHeartbeats 2000000 in
theorem Tw(width :Int)(busy:Bool)(kinds:List Int)(can:List Bool)(B0 nk nc:Nat)(vk vc:Value)(w:World)(hk:Sl B0 3 1 w vk nk (kinds.flatMap λa=>[.int .i64 a]))(hc:Sl B0 4 1 w vc nc (can.flatMap λa=>[.bool a]))
    (hnk:nk=kinds.length) (hnc:nc=can.length) (hlk:nk<=100000) (hlc:nc<=100000):
    Calls Tryz.prog 70 #[.int .i64 width,.bool busy,vk,vc] w λe w'=>∃v,e=.returned v∧w'.ownsRow w.heap.size 3 1 v (pickOf width busy kinds can).length ((pickOf width busy kinds can).flatMap λn:Nat=>[.int .i64 n])∧Below w.heap.size w w':=by
  obtain⟨Ak,ck,rfl,k1,k2, -, -⟩:=id hk;obtain⟨Ac,cc,rfl,c1,c2, -, -⟩:=id hc;have HNK:=Lib.hid hnk;have HNC:=Lib.hid hnc;clear hnk hnc;have hmm:= @run_makeMap Tryz.prog;have hT0:=TMap.made w;have hB0:=cJ (w:=w) (.map #[] 0)
  go_enter Tryz.func70,Tryz.ntmps70
  go_wp2_with fail
  go_step3
  go_upto_if 16 with (fail)
  go_cut [17] (λ_ wx=>∃n1,TMap wx w.heap.size n1 busy false∧n1<=1∧Below w.heap.size w wx)
  case first=>
    cases busy with
    | false=>
      go_wp2_with fail
      go_meet
      case rel=>exact⟨0,hT0,by omega,hB0⟩
    | true=>
      obtain⟨w1,hr,hT,hg⟩:=hT0.put1 (by omega);have HT:=Lib.hid hT;clear hT
      go_wp2_with fail
      go_meet
      case rel=>exact⟨1,by simpa using HT.out,by omega,hB0.grown hg (by simp) (λj hj=>by cases hj;exact aC _)⟩
  case rest =>
    obtain⟨n1,hT1,hn1,hB1⟩:=hcut
    go_wp2_with fail
    go_step3
    go_wp2_with fail
    go_loopw [10,11,12,13,14,20] (λo _ _ _ _ i wr=>∃(k n:Nat) (A:Option Addr) (c:Nat),i=.int .i64 k∧k<=nc∧o=.slice A (iB width busy kinds can k).out.length c∧n<=k+1∧
        TMap wr w.heap.size n (iB width busy kinds can k).t1 (iB width busy kinds can k).t2∧
        wr.ownsRow w.heap.size 3 1 (.slice A (iB width busy kinds can k).out.length c) (iB width busy kinds can k).out.length ((iB width busy kinds can k).out.flatMap λn:Nat=>[.int .i64 n])∧Below w.heap.size w wr)
      (λ_ _ _ _ _ i _=>nc-(intOf i).toNat)
    case atStart=>exact⟨0,n1,none,0,rfl,aE _,rfl,by omega,hT1,World.ownsRow_nil _ _ _ _,hB1⟩
    case round=>
      obtain⟨k,n,A,c,rfl,hkn,rfl,hnk,hT,hown,hb⟩:=hrel;by_cases hlt:k<nc
      · obtain ⟨bc,oc,x,rfl,hx,hbc,qc⟩:=hc.one Value.bool hb HNC.out hlt
        have hsucc:Hid (iB width busy kinds can (k+1)=DB width kinds (iB width busy kinds can k) k x):=by
          show _=_;simp only[iB,List.getD,hx,gF]
        have hfull:=Lib.hid (JO (width:=width) (busy:=busy) (kinds:=kinds) (can:=can) (k:=k));have hle:=EY (width:=width) (busy:=busy) (kinds:=kinds) (can:=can) k;have hfin:Hid (width<=(iB width busy kinds can k).out.length->(pickOf width busy kinds can)=(iB width busy kinds can k).out):=by
          intro h;unfold pickOf;rw[<-HNC.out,show nc=k+(nc-k) by omega,hfull.out h]
        clear hx;generalize iB width busy kinds can k=s at *;obtain⟨out,t1,t2⟩:=s;dsimp only at *;have hws:=hb.size;have hbr:bc<wr.heap.size:=Nat.lt_of_lt_of_le hbc hws;by_cases hw:width<=out.length
        · have hw':decide (width<=(out.length:Int))=true:=by simpa using hw
          have HF:=Lib.hid (hfin.out hw);clear hfin hfull hsucc
          go_wp2_with fail
          rw[Exit.noGoto_ret]
          go_ret
          refine⟨_,rfl,?_,hb⟩;rw[HF.out];exact hown
        · have hw' : decide (width<=(out.length:Int))=false:=by simpa using hw
          cases x with
          | false=>
            have HS:Hid (iB width busy kinds can (k+1)=⟨out,t1,t2⟩):=hsucc.out.trans (by simp[DB]);clear hfin hfull hsucc
            go_wp2_with fail
            go_roundw
            case rel=>exact⟨k+1,n,A,c,by go_num,by omega,by rw[HS.out],by omega,by rw[HS.out];exact hT,by rw[HS.out];exact hown,hb⟩
            case measure=>simp[intOf];omega
          | true=>
            obtain⟨lk1,lk2⟩:=hT.look;have hkd:(∃bk ok,Ak=some ⟨bk,ok,none⟩∧wr.cell? ⟨bk,ok+k,none⟩=some (.int .i64 (Cq kinds k))∧k<nk)∨(¬k<nk∧Cq kinds k=0):=by
              by_cases hik:k<nk
              · obtain⟨bk,ok,y,rfl,hy, -,qk⟩:=hk.one (Value.int .i64) hb HNK.out hik
                refine .inl ⟨bk,ok,rfl,?_,hik⟩;rw[qk];simp[Cq,List.getD,hy]
              · refine .inr ⟨hik,?_⟩
                have:=HNK.out;simp[Cq,List.getD,bO (show kinds.length<=k by omega)]
            obtain⟨y,hy⟩:∃y,y=Cq kinds k:=⟨_,rfl⟩;have hu:rZ y=0∨(rZ y=1∧t1=true)∨(rZ y=2∧t2=true)∨(rZ y=1∧t1=false)∨(rZ y=2∧t2=false):=by
              have:rZ y=0∨rZ y=1∨rZ y=2:=by unfold rZ;split<;>(try split)<;>simp
              rcases this with h|h|h<;>cases t1<;>cases t2<;>simp[h]
            have hst:Hid (iB width busy kinds can (k+1)=if QH kinds ⟨out,t1,t2⟩ k=true then⟨out,t1,t2⟩else⟨out++[k],t1||rZ y==1,t2||rZ y==2⟩):=by
              refine hsucc.out.trans ?_;simp only[DB,hy];rw[if_neg (by simpa using hw)];simp
            have hbar:Hid (QH kinds ⟨out,t1,t2⟩ k=((rZ y==1&&t1)||(rZ y==2&&t2))):=by show _=_;rw[hy];rfl
            rw[<-hy]at hkd;clear hy hfin hfull hsucc;rcases hu with hu|⟨hu,rfl⟩|⟨hu,rfl⟩|⟨hu,rfl⟩|⟨hu,rfl⟩
            · have HS:Hid (iB width busy kinds can (k+1)=⟨out++[k],t1,t2⟩):=by show _=_;rw[hst.out,hbar.out,hu];simp
              obtain⟨c0,w1,k1,k2,hr0,hr,hT1',hg⟩:=hT.put0 (by omega);have HU:=Lib.hid hu;clear hu hst hbar;have hown1:=hown.kept hg (hT.ne hown);have hb1:=hb.grown hg hws (λj hj=>by cases hj;exact aC _);have hws1:=hb1.size;rcases hkd with ⟨bk,ok,rfl,qk,hik⟩|⟨hik,rfl⟩
              all_goals
                go_wp2_with (first
                  |(go_at_call 112;refine(Cr _ _ HU.out _).mono ?_;rintro e w' ⟨rfl,rfl⟩)
                  | (at_builtin
                     refine Af Iq rfl (.tmp 53) (.tmp 55) rfl w.heap.size (.slice A out.length c) out.length _ rfl hown1 (by omega) hws1 w1.heap.size rfl rfl rfl rfl ?_;intro g' cap' w3 hown3 hb3 hg3))
                go_roundw
                case rel=>exact⟨k+1,n+1,some ⟨g',0,none⟩,cap',by go_num,by omega,by rw[HS.out];simp,by omega,by rw[HS.out];exact(hT1'.kept (cJ _)).grown hg3 (by rcases hT1'.ne hown1 with h|h<;>simp[h]<;>exact λh'=>h h'.symm),by rw[HS.out];simpa using hown3,(hb1.alloc hws1 _).trans hb3⟩
                case measure=>simp[intOf];omega
            · have HS:Hid (iB width busy kinds can (k+1)=⟨out,true,t2⟩):=by show _=_;rw[hst.out,hbar.out,hu];simp
              have HU:=Lib.hid hu;clear hu hst hbar;rcases hkd with ⟨bk,ok,rfl,qk,hik⟩|⟨hik,rfl⟩
              all_goals
                go_wp2_with (go_at_call 112;refine(Cr _ _ HU.out _).mono ?_;rintro e w' ⟨rfl,rfl⟩)
                go_roundw
                case rel=>exact⟨k+1,n,A,c,by go_num,by omega,by rw[HS.out],by omega,by rw[HS.out];exact hT,by rw[HS.out];exact hown,hb⟩
                case measure=>simp[intOf];omega
            · have HS:Hid (iB width busy kinds can (k+1)=⟨out,t1,true⟩):=by show _=_;rw[hst.out,hbar.out,hu];simp
              have HU:=Lib.hid hu;clear hu hst hbar;rcases hkd with ⟨bk,ok,rfl,qk,hik⟩|⟨hik,rfl⟩
              all_goals
                go_wp2_with (go_at_call 112;refine(Cr _ _ HU.out _).mono ?_;rintro e w' ⟨rfl,rfl⟩)
                go_roundw
                case rel=>exact⟨k+1,n,A,c,by go_num,by omega,by rw[HS.out],by omega,by rw[HS.out];exact hT,by rw[HS.out];exact hown,hb⟩
                case measure=>simp[intOf];omega
            · have HS:Hid (iB width busy kinds can (k+1)=⟨out++[k],true,t2⟩):=by show _=_;rw[hst.out,hbar.out,hu];simp
              obtain⟨w1,hr,hT1',hg⟩:=hT.put1 (by omega);have HU:=Lib.hid hu;clear hu hst hbar;have hown1:=hown.kept hg (hT.ne hown);have hb1:=hb.grown hg hws (λj hj=>by cases hj;exact aC _);have hws1:=hb1.size;rcases hkd with ⟨bk,ok,rfl,qk,hik⟩|⟨hik,rfl⟩
              all_goals
                go_wp2_with (first
                  |(go_at_call 112;refine(Cr _ _ HU.out _).mono ?_;rintro e w' ⟨rfl,rfl⟩)
                  | (at_builtin
                     refine Af Iq rfl (.tmp 53) (.tmp 55) rfl w.heap.size (.slice A out.length c) out.length _ rfl hown1 (by omega) hws1 w1.heap.size rfl rfl rfl rfl ?_;intro g' cap' w3 hown3 hb3 hg3))
                go_roundw
                case rel=>exact⟨k+1,n+1,some ⟨g',0,none⟩,cap',by go_num,by omega,by rw[HS.out];simp,by omega,by rw[HS.out];exact(hT1'.kept (cJ _)).grown hg3 (by rcases hT1'.ne hown1 with h|h<;>simp[h]<;>exact λh'=>h h'.symm),by rw[HS.out];simpa using hown3,(hb1.alloc hws1 _).trans hb3⟩
                case measure=>simp[intOf];omega
            · have HS:Hid (iB width busy kinds can (k+1)=⟨out++[k],t1,true⟩):=by show _=_;rw[hst.out,hbar.out,hu];simp
              obtain⟨w1,hr,hT1',hg⟩:=hT.put2 (by omega);have HU:=Lib.hid hu;clear hu hst hbar;have hown1:=hown.kept hg (hT.ne hown);have hb1:=hb.grown hg hws (λj hj=>by cases hj;exact aC _);have hws1:=hb1.size;rcases hkd with ⟨bk,ok,rfl,qk,hik⟩|⟨hik,rfl⟩
              all_goals
                go_wp2_with (first
                  |(go_at_call 112;refine(Cr _ _ HU.out _).mono ?_;rintro e w' ⟨rfl,rfl⟩)
                  | (at_builtin
                     refine Af Iq rfl (.tmp 53) (.tmp 55) rfl w.heap.size (.slice A out.length c) out.length _ rfl hown1 (by omega) hws1 w1.heap.size rfl rfl rfl rfl ?_;intro g' cap' w3 hown3 hb3 hg3))
                go_roundw
                case rel=>exact⟨k+1,n+1,some ⟨g',0,none⟩,cap',by go_num,by omega,by rw[HS.out];simp,by omega,by rw[HS.out];exact(hT1'.kept (cJ _)).grown hg3 (by rcases hT1'.ne hown1 with h|h<;>simp[h]<;>exact λh'=>h h'.symm),by rw[HS.out];simpa using hown3,(hb1.alloc hws1 _).trans hb3⟩
                case measure=>simp[intOf];omega
      · have hkk:k=nc:=by omega
        have HO:Hid ((iB width busy kinds can k).out=pickOf width busy kinds can):=by show _=_;rw[hkk,HNC.out];rfl
        clear hkk
        go_wp2_with fail
        rw[Exit.noGoto_ret]
        go_ret
        exact⟨_,rfl,by rw[<-HO.out];exact hown,hb⟩
end Go.Proofs.YtgleompefdogkaaGreatDoor
