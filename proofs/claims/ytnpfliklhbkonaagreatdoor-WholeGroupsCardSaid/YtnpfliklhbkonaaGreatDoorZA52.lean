/- Parts. -/
import Derived.Test.YtnpfliklhbkonaaGreatDoorRows
import Derived.Test.YtnpfliklhbkonaaGreatDoorZA2
import Derived.JoinedOf
set_option maxRecDepth 99999
set_option maxHeartbeats 0
namespace Go.Proofs.YtnpfliklhbkonaaGreatDoor
open Go.Proofs.Tryz
theorem jf0:(Rows.wholeGroupsRow.wf (OpenSpec.ofChange Rows.wholeGroupsSpec))=true:=by kernel_rfl
theorem jf1:(laidOutB prog)=true:=by kernel_rfl
theorem jf2:(mapsRowed prog)=true:=by kernel_rfl
theorem jf3:(f3.params.all (prog.readableRec ·))=true:=by kernel_rfl
theorem jf4:(namedTie prog Rows.wholeGroupsRow.named Rows.wholeGroupsSpec.vars)=true:=by kernel_rfl
theorem jf5:((Rows.wholeGroupsRow.stops==[]))=true:=by kernel_rfl
theorem jf6:((prog.stops==[]))=true:=by kernel_rfl
theorem jf7:((Rows.wholeGroupsRow.knobs==[]))=true:=by kernel_rfl
theorem jf8:((prog.stopKnobs==[]))=true:=by kernel_rfl
theorem jf9:((Rows.wholeGroupsRow.inPlace==prog.inPlace 3))=true:=by kernel_rfl
theorem mo:((Rows.wholeGroupsRow.unfollowed==prog.unfollowed 3))=true:=by kernel_rfl
theorem mp:((Rows.wholeGroupsRow.recurses==prog.recurses 3))=true:=by kernel_rfl
theorem mr:((Rows.wholeGroupsRow.named==prog.varsNamed 3))=true:=by kernel_rfl
theorem mw:((Rows.wholeGroupsRow.maps==(f3.params.toList++Rows.wholeGroupsSpec.plain.varTypes prog).any (prog.mapsRec ·)))=true:=by kernel_rfl
theorem mx:((Rows.wholeGroupsRow.ifaces==(f3.params.toList++Rows.wholeGroupsSpec.plain.varTypes prog).any (prog.ifacesRec ·)))=true:=by kernel_rfl
theorem my:((Rows.wholeGroupsRow.mapsOut==prog.mapsAmong f3.resultTypes.toList))=true:=by kernel_rfl
theorem mz:((Rows.wholeGroupsRow.loops==(f3.params.toList++Rows.wholeGroupsSpec.plain.varTypes prog).any (prog.loopsFrom ·)))=true:=by kernel_rfl
theorem na:((Rows.wholeGroupsRow.wideKeys==(f3.params.toList++Rows.wholeGroupsSpec.plain.varTypes prog++f3.resultTypes.toList).any (prog.wideKeysFrom ·)))=true:=by kernel_rfl
theorem nd:(Rows.wholeGroupsSpec.vars.all (prog.varReadable ·))=true:=by kernel_rfl
theorem nf:(f3.resultTypes.all (fun t=>prog.readableRec t&&decide (t<prog.types.size)))=true:=by kernel_rfl
theorem ng:((Rows.wholeGroupsRow.ifacesOut==f3.resultTypes.toList.any (prog.ifacesRec ·)))=true:=by kernel_rfl
theorem nh:((Rows.wholeGroupsRow.loopsOut==f3.resultTypes.toList.any (prog.loopsFrom ·)))=true:=by kernel_rfl
theorem ni:((Rows.wholeGroupsRow.plainKeys==prog.plainKeys))=true:=by kernel_rfl
theorem nj:(Rows.wholeGroupsRow.shortTexts.isNone)=true:=by kernel_rfl
theorem nk:(prog.stopsHeard)=true:=by kernel_rfl
theorem nl:(prog.mayEnter)=true:=by kernel_rfl
theorem no:((Rows.wholeGroupsRow.lifted==prog.liftsFinal))=true:=by kernel_rfl
theorem np:((prog.make==some Rows.wholeGroupsRow.make))=true:=by kernel_rfl
theorem nr:((Rows.wholeGroupsRow.kinds==(if Rows.wholeGroupsRow.domain.isEmpty then[] else f3.params.toList.map fun t=>match prog.underlying t with|some (.int k)=>some k|_=>none)))=true:=by kernel_rfl
theorem nt:((Rows.wholeGroupsRow.pinned==Rows.wholeGroupsRow.pinnedBy))=true:=by kernel_rfl
theorem nw:((Rows.wholeGroupsRow.veiled==(f3.params.toList++Rows.wholeGroupsSpec.plain.varTypes prog++f3.resultTypes.toList).any (prog.veiledRec ·)))=true:=by kernel_rfl
theorem ny:(Rows.wholeGroupsRow.veiledFits prog f3.params.toList (f3.params.toList++Rows.wholeGroupsSpec.plain.varTypes prog++f3.resultTypes.toList))=true:=by kernel_rfl
theorem ba{a b:Bool}(A:a=true)(B:b=true):(a&&b)=true:=by rw[A,B];rfl
theorem Z5:joinedFacts prog 3 f3 Rows.wholeGroupsSpec Rows.wholeGroupsRow=true:=ba (ba (ba (ba (ba (ba (ba (ba (ba (ba (ba (ba (ba (ba (ba (ba (ba (ba (ba (ba (ba (ba (ba (ba (ba (ba (ba (ba (ba (ba (ba jf0 jf1) jf2) jf3) jf4) jf5) jf6) jf7) jf8) jf9) mo) mp) mr) mw) mx) my) mz) na) nd) nf) ng) nh) ni) nj) nk) nl) no) np) nr) nt) nw) ny
