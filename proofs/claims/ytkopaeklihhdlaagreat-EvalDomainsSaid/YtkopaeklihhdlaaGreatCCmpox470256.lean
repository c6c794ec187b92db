/-
  slices.CompactFunc over values, walked: from a world of the sort's to a world of the sort's. Conditions: the contract of the test; how the row lies.
-/
import Derived.Test.YtkopaeklihhdlaaGreatCCmkox555569
set_option linter.all false
namespace Go.Proofs.YtkopaeklihhdlaaGreat
namespace Abs
open Go Go.Proofs Go.Shelf Go.RowKit Go.Lib Go.Sort
variable {α:Type}[Inhabited α]
def Ik(eqf:α→α→Bool)(d:Array α)(j:Nat):Bool:=j==0 ||!eqf d[j]! d[j - 1]!
theorem ajP(kp:Nat→Bool)(d:Array α)(h:∀j,j<d.size→kp j=true):(keptUpTo kp d d.size).length=d.size∧∀j,j<(keptUpTo kp d d.size).length→(keptUpTo kp d d.size)[j]? =some d[j]!:=by
 have e:keptUpTo kp d d.size=d.toList:=by rw[keptUpTo_all kp d _ h,range_map_get]
 rw[e];refine⟨by simp,fun j hj=>?_⟩;have hj':j<d.size:=by simpa using hj
 rw[getElem!_pos d j hj'];simp[hj']
set_option maxHeartbeats 8000000 in
set_option maxRecDepth 1000000 in
theorem aaC(enc:α→List Value)(eqf:α→α→Bool)(blk off cap:Nat)(d0 d:Array α)(w0 w:World)(hz:enc default=z31)
  (hq:∀(W:World) (dk:Array α),dk.size=d0.size→SWK enc 4 w0 blk off dk W→∀x y,Calls Tryz.prog 118 #[.agg (enc x).toArray,.agg (enc y).toArray] W fun e w'=>e=.returned (.bool (eqf x y))∧∃q os',w'=grow (W.drewN q) os')
  (R:RowK enc 4 w0 blk off d0) (hs:d0.size=d.size) (S:SWK enc 4 w0 blk off d w) (hsz:d.size<4611686018427387904) (hcap:d.size≤cap):
  Calls Tryz.prog 117 #[.slice (some ⟨blk,off,none⟩) d.size cap,.func (.func 118) #[] #[]] w fun e w'=>
   ∃dk:Array α,e=.returned (.slice (some ⟨blk,off,none⟩) (keptUpTo (Ik eqf d) d d.size).length cap)∧SWK enc 4 w0 blk off dk w'∧dk.size=d.size∧∀j,j<(keptUpTo (Ik eqf d) d d.size).length→(keptUpTo (Ik eqf d) d d.size)[j]? =some dk[j]!:=by
 have mixed:Tryz.prog.follows .mixedOrders=true:=by kernel_rfl
 have aE:=Tryz.isAgg31;have zE:=Tryz.sizeOf31;have eg:∀args w,(callFunc 118 args).run Tryz.prog w=.ok (.enter 118 args) w:=enters_of Tryz.func118 (by kernel_rfl) rfl;have HQ:Aside _:=hq;have S0:Aside (SWK enc 4 w0 blk off d w):=S;have KS:Aside (∀(h:∀j,j<d.size→Ik eqf d j=true),(keptUpTo (Ik eqf d) d d.size).length=d.size∧∀j,j<(keptUpTo (Ik eqf d) d d.size).length→(keptUpTo (Ik eqf d) d d.size)[j]? =some d[j]!):=ajP _ d;obtain⟨kp,HK⟩:∃kp:Nat→Bool,Hid (kp=Ik eqf d):=⟨_,rfl⟩;rw[←HK.out]at KS;rw[←HK.out];have k0:∀j,j<1→kp j=true:=fun j hj=>by
  have:j=0:=by omega
  subst this;rw[HK.out];rfl
 have K0:Aside _:=k0;clear hq S k0;by_cases h2:d.size<2
 ·go_enter Tryz.func117,Tryz.ntmps117
  go_wp2
  go_ret
  obtain⟨e1,e2⟩:=KS.out (fun j hj=>K0.out j (by omega));exact⟨d,by rw[e1];rfl,S0.out,rfl,e2⟩
 ·go_enter Tryz.func117,Tryz.ntmps117
  go_wp2
  go_loopg [5] d.size (fun g s5 wr=>∃k:Nat,1≤k∧k≤d.size∧d.size - k≤g∧s5=.int .i64 k∧Aside (SWK enc 4 w0 blk off d wr)∧Aside (∀j,j<k→kp j=true))
  case atStart=>exact⟨1,qAc _,by omega,by omega,rfl,S0,K0⟩
  case round=>
   obtain⟨k,hk1,hk,hg,rfl,S1,hall⟩:=hrel;clear S0;by_cases hlt:k<d.size
   ·obtain⟨jp,rfl⟩:∃jp,k=jp+1:=⟨k - 1,by omega⟩;have hwp:IntKind.i64.wrap (jp:Int)=(jp:Int):=by rw[IntKind.wrap_i64];omega
    have jz:(jp:Int)+1<(d.size:Int):=by omega
    have jz1:(jp:Int)<(d.size:Int):=by omega
    have p0:(0:Int)≤(jp:Int)+1:=by omega
    have e0:((jp:Int)+1).toNat=jp+1:=by omega
    obtain⟨x,hx⟩:∃x,x=d[jp+1]!:=⟨_,rfl⟩;obtain⟨y,hy⟩:∃x,x=d[jp]!:=⟨_,rfl⟩;obtain⟨xa,xb,xc,xd,ex⟩:=enc4 R x;obtain⟨ya,yb,yc,yd,ey⟩:=enc4 R y;have ja:=fun n os=>(SWK.c4 S1.out R (by omega) (jp+1) (by omega) hx ex n os).1;have jb:=fun n os=>(SWK.c4 S1.out R (by omega) (jp+1) (by omega) hx ex n os).2.1;have jc:=fun n os=>(SWK.c4 S1.out R (by omega) (jp+1) (by omega) hx ex n os).2.2.1;have jd:=fun n os=>(SWK.c4 S1.out R (by omega) (jp+1) (by omega) hx ex n os).2.2.2;have pa:=fun n os=>(SWK.c4 S1.out R (by omega) jp (by omega) hy ey n os).1;have pb:=fun n os=>(SWK.c4 S1.out R (by omega) jp (by omega) hy ey n os).2.1;have pc:=fun n os=>(SWK.c4 S1.out R (by omega) jp (by omega) hy ey n os).2.2.1;have pd:=fun n os=>(SWK.c4 S1.out R (by omega) jp (by omega) hy ey n os).2.2.2;have hcg:=fun n os=>HQ.out _ d (by omega) (S1.out.grown n os) x y;rw[ex,ey]at hcg;have HX:Aside (x=d[jp+1]!∧y=d[jp]!):=⟨hx,hy⟩;clear hx hy;cases hE:eqf x y with
    |true=>
     rw[hE]at hcg
     go_wp2_with fail
     go_quiet_grown (first|(go_at_fn 118;refine Calls.grown_of (hcg _ _)))
     have S2:Aside (SWK enc 4 w0 blk off d (grow (wr.drewN nq) osq)):=S1.out.grown nq osq;clear ja jb jc jd pa pb pc pd hcg S1;generalize grow (wr.drewN nq) osq=w2 at S2⊢;clear nq osq
     go_wp2_with fail
     generalize hn2:d.size - (jp+1)=n2;generalize ho2:off+(jp+1)*4=o2;generalize hc2:cap - (jp+1)=c2;have start:KeptInv kp d (jp+1+1) (jp+1) d:=KeptInv.start hall.out (by
      rw[HK.out];show(_ ||!eqf d[jp+1]! d[jp+1 - 1]!)=false
      rw[Nat.add_sub_cancel,←HX.out.1,←HX.out.2,hE];simp)
     have ST:Aside _:=start;clear start
     go_loopg [5,7] d.size (fun g s5 s7 wr=>∃(kk k2:Nat) (dk:Array α),s5=.int .i64 kk∧s7=.int .i64 k2∧1≤k2∧k2≤n2∧n2 - k2≤g∧Aside (SWK enc 4 w0 blk off dk wr)∧Aside (KeptInv kp d (jp+1+k2) kk dk))
     case atStart=>exact⟨jp+1,1,d,rfl,rfl,qAc _,by omega,by omega,S2,ST⟩
     case round=>
      obtain⟨kk,k2,dk,rfl,rfl,g1,g2,g3,S3,I3⟩:=hrel;have hkk:=I3.out.lt;have hds:=I3.out.size;clear S2 ST;by_cases hlt2:k2<n2
      ·obtain⟨jq,rfl⟩:∃jq,k2=jq+1:=⟨k2 - 1,by omega⟩;have hwq:IntKind.i64.wrap (jq:Int)=(jq:Int):=by rw[IntKind.wrap_i64];omega
       have qz:(jq:Int)+1<(n2:Int):=by omega
       have qz1:(jq:Int)<(n2:Int):=by omega
       have q0:(0:Int)≤(jq:Int)+1:=by omega
       have f0:((jq:Int)+1).toNat=jq+1:=by omega
       obtain⟨u,hu⟩:∃x,x=dk[jp+1+(jq+1)]!:=⟨_,rfl⟩;obtain⟨v,hv⟩:∃x,x=dk[jp+1+jq]!:=⟨_,rfl⟩;obtain⟨ua,ub,uc,ud,eu⟩:=enc4 R u;obtain⟨va,vb,vc,vd,ev⟩:=enc4 R v;have a1:off+(jp+1+(jq+1))*4=o2+(jq+1)*4:=by omega
       have a2:off+(jp+1+jq)*4=o2+jq*4:=by omega
       have cu:=fun n os=>SWK.c4 S3.out R (by omega) (jp+1+(jq+1)) (by omega) hu eu n os;have cv:=fun n os=>SWK.c4 S3.out R (by omega) (jp+1+jq) (by omega) hv ev n os;rw[a1]at cu;rw[a2]at cv;have ja:=fun n os=>(cu n os).1;have jb:=fun n os=>(cu n os).2.1;have jc:=fun n os=>(cu n os).2.2.1;have jd:=fun n os=>(cu n os).2.2.2;have pa:=fun n os=>(cv n os).1;have pb:=fun n os=>(cv n os).2.1;have pc:=fun n os=>(cv n os).2.2.1;have pd:=fun n os=>(cv n os).2.2.2;have hcg:=fun n os=>HQ.out _ dk (by omega) (S3.out.grown n os) u v;rw[eu,ev]at hcg;have hu':u=d[jp+1+(jq+1)]!:=by rw[hu,I3.out.high _ (by omega)]
       have hv':v=d[jp+1+jq]!:=by rw[hv,I3.out.high _ (by omega)]
       have HU:Aside (u=dk[jp+1+(jq+1)]!∧u=d[jp+1+(jq+1)]!∧v=d[jp+1+jq]!):=⟨hu,hu',hv'⟩;clear cu cv hu hv hu' hv' a1 a2;cases hE2:eqf u v with
       |true=>
        rw[hE2]at hcg
        go_wp2_with fail
        go_quiet_grown (first|(go_at_fn 118;refine Calls.grown_of (hcg _ _)))
        go_wp2
        go_roundg (n2 - (jq+1+1))
        case measure=>omega
        case rel=>
         refine⟨kk,jq+1+1,dk,rfl,by go_num,by omega,by omega,qAc _,S3.out.grown nq osq,?_⟩;refine I3.out.skip ?_;rw[HK.out];show(_ ||!eqf d[jp+1+(jq+1)]! d[jp+1+(jq+1) - 1]!)=false
         rw[show jp+1+(jq+1) - 1=jp+1+jq by omega,←HU.out.2.1,←HU.out.2.2,hE2];simp
       |false=>
        rw[hE2]at hcg
        go_wp2_with fail
        go_quiet_grown (first|(go_at_fn 118;refine Calls.grown_of (hcg _ _)))
        have S4:Aside (SWK enc 4 w0 blk off dk (grow (wr.drewN nq) osq)):=S3.out.grown nq osq;clear ja jb jc jd pa pb pc pd hcg S3;generalize grow (wr.drewN nq) osq=w3 at S4⊢;clear nq osq;have cu:=SWK.l4 S4.out R (by omega) (jp+1+(jq+1)) (by omega) HU.out.1 eu;rw[show off+(jp+1+(jq+1))*4=o2+(jq+1)*4 by omega]at cu;obtain⟨ja,jb,jc,jd⟩:=cu;obtain⟨oa,ob,oc,od,eo⟩:=enc4 R dk[kk]!;obtain⟨ka,kb,kc,kd⟩:=SWK.l4 S4.out R (by omega) kk (by omega) rfl eo;obtain⟨fa,fb,fc,fd⟩:=SWK.f4 S4.out R (by omega) kk (by omega);have S5:Aside (SWK enc 4 w0 blk off (dk.setIfInBounds kk u) (w3.setCells blk (off+kk*4) [ua,ub,uc,ud])):=by
         have:=SWK.put S4.out R.hk R.hblk kk (by omega) u;rwa[eu]at this
        have bz:(kk:Int)<(d.size:Int):=by omega
        have oa1:∀a m w,(store a ua m).run Tryz.prog w=stored Tryz.prog w a ua m:=fun a m w=>run_store Tryz.prog w a ua m (R.h1 u ua (by rw[eu];simp));have ob1:∀a m w,(store a ub m).run Tryz.prog w=stored Tryz.prog w a ub m:=fun a m w=>run_store Tryz.prog w a ub m (R.h1 u ub (by rw[eu];simp));have oc1:∀a m w,(store a uc m).run Tryz.prog w=stored Tryz.prog w a uc m:=fun a m w=>run_store Tryz.prog w a uc m (R.h1 u uc (by rw[eu];simp));have od1:∀a m w,(store a ud m).run Tryz.prog w=stored Tryz.prog w a ud m:=fun a m w=>run_store Tryz.prog w a ud m (R.h1 u ud (by rw[eu];simp));clear S4
        go_wp2_with fail
        go_roundg (n2 - (jq+1+1))
        case measure=>omega
        case rel=>
         refine⟨kk+1,jq+1+1,dk.setIfInBounds kk u,by go_num,by go_num,by omega,by omega,qAc _,S5.out,?_⟩;rw[HU.out.2.1];refine I3.out.keep (by omega) ?_;rw[HK.out];show(_ ||!eqf d[jp+1+(jq+1)]! d[jp+1+(jq+1) - 1]!)=true
         rw[show jp+1+(jq+1) - 1=jp+1+jq by omega,←HU.out.2.1,←HU.out.2.2,hE2];simp
      ·have hend:jp+1+k2=d.size:=by omega
       have hI:=I3.out;rw[hend]at hI;have hcl:=fun ty=>aeO enc hz R S3.out (by omega) kk (d.size - kk) (cap - kk) (by omega) ty;obtain⟨dk',SP,sp1,sp2⟩:=SWK.puts R.hk R.hblk default (d.size - kk) kk dk wr S3.out (by omega);have S6:Aside _:=SP;have H6:Aside _:=sp2;clear SP sp2
       go_wp2
       go_ret
       refine⟨dk',by rw[hI.len];rfl,(by rw[←hz];exact S6.out),by omega,fun j hj=>?_⟩;rw[hI.len]at hj;rw[H6.out j hj,hI.low j hj]
    |false=>
     rw[hE]at hcg
     go_wp2_with fail
     go_quiet_grown (first|(go_at_fn 118;refine Calls.grown_of (hcg _ _)))
     go_wp2
     go_roundg (d.size - (jp+1+1))
     case measure=>omega
     case rel=>
      refine⟨jp+1+1,by omega,by omega,qAc _,by go_num,S1.out.grown nq osq,fun j hj=>?_⟩;by_cases e:j=jp+1
      ·subst e;rw[HK.out];show(_ ||!eqf d[jp+1]! d[jp+1 - 1]!)=true
       rw[Nat.add_sub_cancel,←HX.out.1,←HX.out.2,hE];simp
      ·exact hall.out j (by omega)
   ·obtain rfl:k=d.size:=by omega
    go_wp2
    go_ret
    obtain⟨e1,e2⟩:=KS.out hall.out;exact⟨d,by rw[e1];rfl,S1.out,rfl,e2⟩
end Abs
end Go.Proofs.YtkopaeklihhdlaaGreat
