import Derived.Test.YtjmlknjbhbfneaaGreatDoorZLaidL
namespace Go.Proofs.YtjmlknjbhbfneaaGreatDoor
open Go.RowKit Go.Bw Go.Bw.Fl
set_option linter.unusedVariables false
set_option linter.unusedSimpArgs false
theorem ado (os:Os) (args:Array Value):laidMet Tryz.prog Rf ((Dd os).forCall (fun _ _=>0) ⟨#[],args,[]⟩).memory:=
 laidMet_of_run' 8 (by kernel_rfl) (by kernel_rfl)
theorem adq (os:Os) (args:Array Value):((Dd os).forCall (fun _ _=>0) ⟨#[],args,[]⟩).variablesRefB Tryz.checked.prog=true:=by kernel_rfl
theorem adp (os:Os) (args:Array Value):(((Dd os).forCall (fun _ _=>0) ⟨#[],args,[]⟩).heap.toList.drop Tryz.checked.prog.globals.size).take ((begin Tryz.checked.prog (fun _ _=>0) default).world.heap.size - Tryz.checked.prog.globals.size)=(begin Tryz.checked.prog (fun _ _=>0) default).world.heap.toList.drop Tryz.checked.prog.globals.size:=by kernel_rfl
end Go.Proofs.YtjmlknjbhbfneaaGreatDoor
