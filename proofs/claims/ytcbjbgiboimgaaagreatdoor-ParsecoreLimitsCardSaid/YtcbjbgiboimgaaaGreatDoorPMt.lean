/- For every input the law ParsecoreLimits returns true. Part 20 of 22. No condition. -/
import Derived.Test.YtcbjbgiboimgaaaGreatDoorPMs
import Derived.JoinedOf
set_option linter.unusedVariables false
set_option linter.unnecessarySimpa false
set_option linter.unusedSimpArgs false
set_option maxRecDepth 100000
set_option maxHeartbeats 4000000
namespace Go.Proofs.YtcbjbgiboimgaaaGreatDoor
open Go Go.Abs
theorem andT{a b:Bool}(h1:a=true)(h2:b=true):(a&&b)=true:=by rw[h1,h2];rfl
theorem jf0:(Rows.parsecoreLimitsRow.wf (OpenSpec.ofChange Rows.parsecoreLimitsSpec))=true:=by kernel_rfl
theorem jf1:(laidOutB Tryz.prog)=true:=by kernel_rfl
theorem jf2:(mapsRowed Tryz.prog)=true:=by kernel_rfl
theorem jf3:(Tryz.f5.params.all (Tryz.prog.readableRec ·))=true:=by kernel_rfl
theorem jf4:(namedTie Tryz.prog Rows.parsecoreLimitsRow.named Rows.parsecoreLimitsSpec.vars)=true:=by kernel_rfl
theorem jf5:((Rows.parsecoreLimitsRow.stops==[]))=true:=by kernel_rfl
theorem jf6:((Tryz.prog.stops==[]))=true:=by kernel_rfl
theorem jf7:((Rows.parsecoreLimitsRow.knobs==[]))=true:=by kernel_rfl
theorem jf8:((Tryz.prog.stopKnobs==[]))=true:=by kernel_rfl
theorem jf9:((Rows.parsecoreLimitsRow.inPlace==Tryz.prog.inPlace 5))=true:=by kernel_rfl
theorem jf10:((Rows.parsecoreLimitsRow.unfollowed==Tryz.prog.unfollowed 5))=true:=by kernel_rfl
theorem jf11:((Rows.parsecoreLimitsRow.recurses==Tryz.prog.recurses 5))=true:=by kernel_rfl
theorem jf12:((Rows.parsecoreLimitsRow.named==Tryz.prog.varsNamed 5))=true:=by kernel_rfl
theorem jf13:((Rows.parsecoreLimitsRow.maps==(Tryz.f5.params.toList++Rows.parsecoreLimitsSpec.plain.varTypes Tryz.prog).any (Tryz.prog.mapsRec ·)))=true:=by kernel_rfl
theorem jf14:((Rows.parsecoreLimitsRow.ifaces==(Tryz.f5.params.toList++Rows.parsecoreLimitsSpec.plain.varTypes Tryz.prog).any (Tryz.prog.ifacesRec ·)))=true:=by kernel_rfl
theorem jf15:((Rows.parsecoreLimitsRow.mapsOut==Tryz.prog.mapsAmong Tryz.f5.resultTypes.toList))=true:=by kernel_rfl
theorem jf16:((Rows.parsecoreLimitsRow.loops==(Tryz.f5.params.toList++Rows.parsecoreLimitsSpec.plain.varTypes Tryz.prog).any (Tryz.prog.loopsFrom ·)))=true:=by kernel_rfl
theorem jf17:((Rows.parsecoreLimitsRow.wideKeys==(Tryz.f5.params.toList++Rows.parsecoreLimitsSpec.plain.varTypes Tryz.prog++Tryz.f5.resultTypes.toList).any (Tryz.prog.wideKeysFrom ·)))=true:=by kernel_rfl
theorem jf18:(Rows.parsecoreLimitsSpec.vars.all (Tryz.prog.varReadable ·))=true:=by kernel_rfl
theorem jf19:(Tryz.f5.resultTypes.all (fun t=>Tryz.prog.readableRec t&&decide (t<Tryz.prog.types.size)))=true:=by kernel_rfl
theorem jf20:((Rows.parsecoreLimitsRow.ifacesOut==Tryz.f5.resultTypes.toList.any (Tryz.prog.ifacesRec ·)))=true:=by kernel_rfl
theorem jf21:((Rows.parsecoreLimitsRow.loopsOut==Tryz.f5.resultTypes.toList.any (Tryz.prog.loopsFrom ·)))=true:=by kernel_rfl
theorem jf22:((Rows.parsecoreLimitsRow.plainKeys==Tryz.prog.plainKeys))=true:=by kernel_rfl
theorem jf23:(Rows.parsecoreLimitsRow.shortTexts.isNone)=true:=by kernel_rfl
theorem jf24:(Tryz.prog.stopsHeard)=true:=by kernel_rfl
theorem jf25:(Tryz.prog.mayEnter)=true:=by kernel_rfl
theorem jf26:((Rows.parsecoreLimitsRow.lifted==Tryz.prog.liftsFinal))=true:=by kernel_rfl
theorem jf27:((Tryz.prog.make==some Rows.parsecoreLimitsRow.make))=true:=by kernel_rfl
theorem jf28:((Rows.parsecoreLimitsRow.kinds==(if Rows.parsecoreLimitsRow.domain.isEmpty then [] else Tryz.f5.params.toList.map fun t=>match Tryz.prog.underlying t with|some (.int k)=>some k|_=>none)))=true:=by kernel_rfl
theorem jf29:((Rows.parsecoreLimitsRow.pinned==Rows.parsecoreLimitsRow.pinnedBy))=true:=by kernel_rfl
theorem jf30:((Rows.parsecoreLimitsRow.veiled==(Tryz.f5.params.toList++Rows.parsecoreLimitsSpec.plain.varTypes Tryz.prog++Tryz.f5.resultTypes.toList).any (Tryz.prog.veiledRec ·)))=true:=by kernel_rfl
theorem jf31:(Rows.parsecoreLimitsRow.veiledFits Tryz.prog Tryz.f5.params.toList (Tryz.f5.params.toList++Rows.parsecoreLimitsSpec.plain.varTypes Tryz.prog++Tryz.f5.resultTypes.toList))=true:=by kernel_rfl
theorem parsecoreLimits_closed:joinedFacts Tryz.prog 5 Tryz.f5 Rows.parsecoreLimitsSpec Rows.parsecoreLimitsRow=true:=
 andT (andT (andT (andT (andT (andT (andT (andT (andT (andT (andT (andT (andT (andT (andT (andT (andT (andT (andT (andT (andT (andT (andT (andT (andT (andT (andT (andT (andT (andT (andT (jf0) jf1) jf2) jf3) jf4) jf5) jf6) jf7) jf8) jf9) jf10) jf11) jf12) jf13) jf14) jf15) jf16) jf17) jf18) jf19) jf20) jf21) jf22) jf23) jf24) jf25) jf26) jf27) jf28) jf29) jf30) jf31
end Go.Proofs.YtcbjbgiboimgaaaGreatDoor
