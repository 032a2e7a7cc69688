/- For every input the law ParsecorePrefix returns true. Part 20 of 22. No condition. -/
import Derived.Test.YtcbjbgiboimgaaaGreatDoorPPs
import Derived.JoinedOf
set_option linter.unusedVariables false
set_option linter.unnecessarySimpa false
set_option linter.unusedSimpArgs false
set_option maxRecDepth 100000
set_option maxHeartbeats 1000000
namespace Go.Proofs.YtcbjbgiboimgaaaGreatDoor
open Go Go.Abs
theorem andT{a b:Bool}(h1:a=true)(h2:b=true):(a&&b)=true:=by rw[h1,h2];rfl
theorem jf0:(Rows.parsecorePrefixRow.wf (OpenSpec.ofChange Rows.parsecorePrefixSpec))=true:=by kernel_rfl
theorem jf1:(laidOutB Tryz.prog)=true:=by kernel_rfl
theorem jf2:(mapsRowed Tryz.prog)=true:=by kernel_rfl
theorem jf3:(Tryz.f4.params.all (Tryz.prog.readableRec ·))=true:=by kernel_rfl
theorem jf4:(namedTie Tryz.prog Rows.parsecorePrefixRow.named Rows.parsecorePrefixSpec.vars)=true:=by kernel_rfl
theorem jf5:((Rows.parsecorePrefixRow.stops==[]))=true:=by kernel_rfl
theorem jf6:((Tryz.prog.stops==[]))=true:=by kernel_rfl
theorem jf7:((Rows.parsecorePrefixRow.knobs==[]))=true:=by kernel_rfl
theorem jf8:((Tryz.prog.stopKnobs==[]))=true:=by kernel_rfl
theorem jf9:((Rows.parsecorePrefixRow.inPlace==Tryz.prog.inPlace 4))=true:=by kernel_rfl
theorem jf10:((Rows.parsecorePrefixRow.unfollowed==Tryz.prog.unfollowed 4))=true:=by kernel_rfl
theorem jf11:((Rows.parsecorePrefixRow.recurses==Tryz.prog.recurses 4))=true:=by kernel_rfl
theorem jf12:((Rows.parsecorePrefixRow.named==Tryz.prog.varsNamed 4))=true:=by kernel_rfl
theorem jf13:((Rows.parsecorePrefixRow.maps==(Tryz.f4.params.toList++Rows.parsecorePrefixSpec.plain.varTypes Tryz.prog).any (Tryz.prog.mapsRec ·)))=true:=by kernel_rfl
theorem jf14:((Rows.parsecorePrefixRow.ifaces==(Tryz.f4.params.toList++Rows.parsecorePrefixSpec.plain.varTypes Tryz.prog).any (Tryz.prog.ifacesRec ·)))=true:=by kernel_rfl
theorem jf15:((Rows.parsecorePrefixRow.mapsOut==Tryz.prog.mapsAmong Tryz.f4.resultTypes.toList))=true:=by kernel_rfl
theorem jf16:((Rows.parsecorePrefixRow.loops==(Tryz.f4.params.toList++Rows.parsecorePrefixSpec.plain.varTypes Tryz.prog).any (Tryz.prog.loopsFrom ·)))=true:=by kernel_rfl
theorem jf17:((Rows.parsecorePrefixRow.wideKeys==(Tryz.f4.params.toList++Rows.parsecorePrefixSpec.plain.varTypes Tryz.prog++Tryz.f4.resultTypes.toList).any (Tryz.prog.wideKeysFrom ·)))=true:=by kernel_rfl
theorem jf18:(Rows.parsecorePrefixSpec.vars.all (Tryz.prog.varReadable ·))=true:=by kernel_rfl
theorem jf19:(Tryz.f4.resultTypes.all (fun t=>Tryz.prog.readableRec t&&decide (t<Tryz.prog.types.size)))=true:=by kernel_rfl
theorem jf20:((Rows.parsecorePrefixRow.ifacesOut==Tryz.f4.resultTypes.toList.any (Tryz.prog.ifacesRec ·)))=true:=by kernel_rfl
theorem jf21:((Rows.parsecorePrefixRow.loopsOut==Tryz.f4.resultTypes.toList.any (Tryz.prog.loopsFrom ·)))=true:=by kernel_rfl
theorem jf22:((Rows.parsecorePrefixRow.plainKeys==Tryz.prog.plainKeys))=true:=by kernel_rfl
theorem jf23:(Rows.parsecorePrefixRow.shortTexts.isNone)=true:=by kernel_rfl
theorem jf24:(Tryz.prog.stopsHeard)=true:=by kernel_rfl
theorem jf25:(Tryz.prog.mayEnter)=true:=by kernel_rfl
theorem jf26:((Rows.parsecorePrefixRow.lifted==Tryz.prog.liftsFinal))=true:=by kernel_rfl
theorem jf27:((Tryz.prog.make==some Rows.parsecorePrefixRow.make))=true:=by kernel_rfl
theorem jf28:((Rows.parsecorePrefixRow.kinds==(if Rows.parsecorePrefixRow.domain.isEmpty then [] else Tryz.f4.params.toList.map fun t=>match Tryz.prog.underlying t with|some (.int k)=>some k|_=>none)))=true:=by kernel_rfl
theorem jf29:((Rows.parsecorePrefixRow.pinned==Rows.parsecorePrefixRow.pinnedBy))=true:=by kernel_rfl
theorem jf30:((Rows.parsecorePrefixRow.veiled==(Tryz.f4.params.toList++Rows.parsecorePrefixSpec.plain.varTypes Tryz.prog++Tryz.f4.resultTypes.toList).any (Tryz.prog.veiledRec ·)))=true:=by kernel_rfl
theorem jf31:(Rows.parsecorePrefixRow.veiledFits Tryz.prog Tryz.f4.params.toList (Tryz.f4.params.toList++Rows.parsecorePrefixSpec.plain.varTypes Tryz.prog++Tryz.f4.resultTypes.toList))=true:=by kernel_rfl
theorem parsecorePrefix_closed:joinedFacts Tryz.prog 4 Tryz.f4 Rows.parsecorePrefixSpec Rows.parsecorePrefixRow=true:=
 andT (andT (andT (andT (andT (andT (andT (andT (andT (andT (andT (andT (andT (andT (andT (andT (andT (andT (andT (andT (andT (andT (andT (andT (andT (andT (andT (andT (andT (andT (andT (jf0) jf1) jf2) jf3) jf4) jf5) jf6) jf7) jf8) jf9) jf10) jf11) jf12) jf13) jf14) jf15) jf16) jf17) jf18) jf19) jf20) jf21) jf22) jf23) jf24) jf25) jf26) jf27) jf28) jf29) jf30) jf31
end Go.Proofs.YtcbjbgiboimgaaaGreatDoor
