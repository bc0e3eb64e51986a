/- Texts of a claim, merged. -/
import Derived.Test.YtpfhoemohibniaaGreatDoorZA1
import Derived.ProofKit
import Derived.Test.YtpfhoemohibniaaGreatDoorRows
import Derived.JoinedOf
set_option maxRecDepth 100000
set_option maxHeartbeats 32000000
namespace Go.Proofs.YtpfhoemohibniaaGreatDoor
def chN:Nat->Nat->Nat
 |_,0=>1
 |0,_+1=>0
 |m+1,l+1=>chN m l+chN m (l+1)
theorem qD(m:Nat):chN m 0=1:=by cases m<;>rfl
theorem IV:∀{m l:Nat},m<l->chN m l=0
 |_,0,h=>absurd h (aY5 _)
 |0,_+1,_=>rfl
 |m+1,l+1,h=>by simp only[chN,IV (show m<l by omega),IV (show m<l+1 by omega)]
theorem yO:∀m,chN m m=1
 |0=>rfl
 |m+1=>by simp only[chN,yO m,IV (Nat.lt_succ_self m)]
theorem yP:∀s a b,a+b=s->chN s a=chN s b
 |0,a,b,h=>by
  obtain rfl:a=0:=by omega
  obtain rfl:b=0:=by omega
  rfl
 |s+1,0,b,h=>by
  obtain rfl:b=s+1:=by omega
  rw[yO,qD]
 |s+1,a+1,0,h=>by
  obtain rfl:a=s:=by omega
  rw[yO,qD]
 |s+1,a+1,b+1,h=>by have A:=yP s a (b+1) (by omega);have B:=yP s (a+1) b (by omega);simp only[chN];omega
theorem tW:∀n k,(k+1)*chN (n+1) (k+1)=(n+1)*chN n k
 |0,0=>rfl
 |0,k+1=>by simp[chN]
 |n+1,0=>by have h:=tW n 0;simp only[chN,qD] at h|-;omega
 |n+1,k+1=>by
  have C:=tW n k;have D:=tW n (k+1);have A:chN (n+1+1) (k+1+1)=chN (n+1) (k+1)+chN (n+1) (k+1+1):=rfl;have B:chN (n+1) (k+1)=chN n k+chN n (k+1):=rfl;rw[A,Nat.mul_add,D,Nat.succ_mul (k+1),C];have E:(n+1)*chN n k+(n+1)*chN n (k+1)=(n+1)*chN (n+1) (k+1):=by rw[<-Nat.mul_add,<-B]
  have F:(n+1+1)*chN (n+1) (k+1)=(n+1)*chN (n+1) (k+1)+chN (n+1) (k+1):=Nat.succ_mul _ _;omega
theorem xO(r:Nat):∀m l,chN m l*r^l<=(r+1)^m
 |m,0=>by rw[qD];simp;exact Nat.pow_pos (Nat.succ_pos r)
 |0,l+1=>by simp[chN]
 |m+1,l+1=>by
  have A:=xO r m l;have D:=xO r m (l+1);have E:chN m l*r^l*r<=(r+1)^m*r:=Nat.mul_le_mul_right _ A;have B:chN (m+1) (l+1)*r^(l+1)=chN m l*r^l*r+chN m (l+1)*r^(l+1):=by simp only[chN];rw[Nat.add_mul,Nat.pow_succ,<-Nat.mul_assoc]
  have C:(r+1)^(m+1)=(r+1)^m*r+(r+1)^m:=by rw[Nat.pow_succ,Nat.mul_succ]
  omega
theorem jf0:(Rows.wholeLocalityRow.wf (OpenSpec.ofChange Rows.wholeLocalitySpec))=true:=by kernel_rfl
theorem jf1:(laidOutB Tryz.prog)=true:=by kernel_rfl
theorem jf2:(mapsRowed Tryz.prog)=true:=by kernel_rfl
theorem jf3:(Tryz.f3.params.all (Tryz.prog.readableRec ·))=true:=by kernel_rfl
theorem jf4:(namedTie Tryz.prog Rows.wholeLocalityRow.named Rows.wholeLocalitySpec.vars)=true:=by kernel_rfl
theorem jf5:((Rows.wholeLocalityRow.stops==[]))=true:=by kernel_rfl
theorem jf6:((Tryz.prog.stops==[]))=true:=by kernel_rfl
theorem jf7:((Rows.wholeLocalityRow.knobs==[]))=true:=by kernel_rfl
theorem jf8:((Tryz.prog.stopKnobs==[]))=true:=by kernel_rfl
theorem jf9:((Rows.wholeLocalityRow.inPlace==Tryz.prog.inPlace 3))=true:=by kernel_rfl
theorem YP:((Rows.wholeLocalityRow.unfollowed==Tryz.prog.unfollowed 3))=true:=by kernel_rfl
theorem YQ:((Rows.wholeLocalityRow.recurses==Tryz.prog.recurses 3))=true:=by kernel_rfl
theorem YR:((Rows.wholeLocalityRow.named==Tryz.prog.varsNamed 3))=true:=by kernel_rfl
theorem YS:((Rows.wholeLocalityRow.maps==(Tryz.f3.params.toList++Rows.wholeLocalitySpec.plain.varTypes Tryz.prog).any (Tryz.prog.mapsRec ·)))=true:=by kernel_rfl
theorem YT:((Rows.wholeLocalityRow.ifaces==(Tryz.f3.params.toList++Rows.wholeLocalitySpec.plain.varTypes Tryz.prog).any (Tryz.prog.ifacesRec ·)))=true:=by kernel_rfl
theorem YU:((Rows.wholeLocalityRow.mapsOut==Tryz.prog.mapsAmong Tryz.f3.resultTypes.toList))=true:=by kernel_rfl
theorem YV:((Rows.wholeLocalityRow.loops==(Tryz.f3.params.toList++Rows.wholeLocalitySpec.plain.varTypes Tryz.prog).any (Tryz.prog.loopsFrom ·)))=true:=by kernel_rfl
theorem YW:((Rows.wholeLocalityRow.wideKeys==(Tryz.f3.params.toList++Rows.wholeLocalitySpec.plain.varTypes Tryz.prog++Tryz.f3.resultTypes.toList).any (Tryz.prog.wideKeysFrom ·)))=true:=by kernel_rfl
theorem YX:(Rows.wholeLocalitySpec.vars.all (Tryz.prog.varReadable ·))=true:=by kernel_rfl
theorem YY:(Tryz.f3.resultTypes.all (fun t=>Tryz.prog.readableRec t&&decide (t<Tryz.prog.types.size)))=true:=by kernel_rfl
theorem YZ:((Rows.wholeLocalityRow.ifacesOut==Tryz.f3.resultTypes.toList.any (Tryz.prog.ifacesRec ·)))=true:=by kernel_rfl
theorem Y0:((Rows.wholeLocalityRow.loopsOut==Tryz.f3.resultTypes.toList.any (Tryz.prog.loopsFrom ·)))=true:=by kernel_rfl
theorem Y1:((Rows.wholeLocalityRow.plainKeys==Tryz.prog.plainKeys))=true:=by kernel_rfl
theorem Y2:(Rows.wholeLocalityRow.shortTexts.isNone)=true:=by kernel_rfl
theorem Y3:(Tryz.prog.stopsHeard)=true:=by kernel_rfl
theorem Y4:(Tryz.prog.mayEnter)=true:=by kernel_rfl
theorem Y5:((Rows.wholeLocalityRow.lifted==Tryz.prog.liftsFinal))=true:=by kernel_rfl
theorem Y6:((Tryz.prog.make==some Rows.wholeLocalityRow.make))=true:=by kernel_rfl
theorem Y7:((Rows.wholeLocalityRow.kinds==(if Rows.wholeLocalityRow.domain.isEmpty then[] else Tryz.f3.params.toList.map fun t=>match Tryz.prog.underlying t with|some (.int k)=>some k|_=>none)))=true:=by kernel_rfl
theorem Y8:((Rows.wholeLocalityRow.pinned==Rows.wholeLocalityRow.pinnedBy))=true:=by kernel_rfl
theorem Y9:((Rows.wholeLocalityRow.veiled==(Tryz.f3.params.toList++Rows.wholeLocalitySpec.plain.varTypes Tryz.prog++Tryz.f3.resultTypes.toList).any (Tryz.prog.veiledRec ·)))=true:=by kernel_rfl
theorem ZB:(Rows.wholeLocalityRow.veiledFits Tryz.prog Tryz.f3.params.toList (Tryz.f3.params.toList++Rows.wholeLocalitySpec.plain.varTypes Tryz.prog++Tryz.f3.resultTypes.toList))=true:=by kernel_rfl
theorem ba{a b:Bool}(A:a=true)(B:b=true):(a&&b)=true:=by rw[A,B];rfl
theorem UI:joinedFacts Tryz.prog 3 Tryz.f3 Rows.wholeLocalitySpec Rows.wholeLocalityRow=true:=ba (ba (ba (ba (ba (ba (ba (ba (ba (ba (ba (ba (ba (ba (ba (ba (ba (ba (ba (ba (ba (ba (ba (ba (ba (ba (ba (ba (ba (ba (ba jf0 jf1) jf2) jf3) jf4) jf5) jf6) jf7) jf8) jf9) YP) YQ) YR) YS) YT) YU) YV) YW) YX) YY) YZ) Y0) Y1) Y2) Y3) Y4) Y5) Y6) Y7) Y8) Y9) ZB
end Go.Proofs.YtpfhoemohibniaaGreatDoor
