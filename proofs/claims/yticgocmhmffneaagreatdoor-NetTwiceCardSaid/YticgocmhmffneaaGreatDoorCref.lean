import Derived.Test.YticgocmhmffneaaGreatDoorCdivP
namespace Go.Proofs.YticgocmhmffneaaGreatDoor
open Go.Eng
set_option linter.unusedSimpArgs false
set_option linter.unusedVariables false
set_option maxRecDepth 100000
set_option maxHeartbeats 8000000
def iU(x:Int):Prop:=0≤x∧x<4294967296
theorem iU.U{x:Int}(h:iU x):V6 x:=by unfold iU at h;unfold V6;omega
def L4(d:Nat→Int):List Value:=[.int .u64 (d 0),.int .u64 (d 1),.int .u64 (d 2),.int .u64 (d 3)]
def up(d:Nat→Int)(k:Nat)(v:Int):Nat→Int:=fun n=>if n=k then v else d n
def pr(a b:Int)(i:Nat):Int:=if i=0 then a else b
end Go.Proofs.YticgocmhmffneaaGreatDoor
