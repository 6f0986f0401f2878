import Derived.Shelf.Small.Bits
import Derived.Shelf.Strconv.Itoa0
import Derived.Shelf.Bits.Mul64
import Derived.Test.YtiflndepmgnojaaGreatProg
namespace Go.Proofs
open Go.Shelf Tryz
def Tryz.Jk:Go.Shelf.Ren:=⟨λ|128=>228|n=>n,λ|51=>50|3=>3|4=>4|46=>185|5=>5|9=>9|n=>n,λ|n=>n⟩
theorem Tryz.R9:Go.Proofs.Lays.n128 Tryz.prog Tryz.Jk:={
 mixed:=by kernel_rfl
 f128:=func228.trans (congrArg some (by kernel_rfl))
 t3:=underlying3
 a3:=isAgg3
 z3:=sizeOf3
 v3:=zeroValue3
 t4:=underlying4
 a4:=isAgg4
 z4:=sizeOf4
 v4:=zeroValue4
 t5:=underlying5
 a5:=isAgg5
 z5:=sizeOf5
 v5:=zeroValue5
 t9:=underlying9
 a9:=isAgg9
 z9:=sizeOf9
 v9:=zeroValue9
 t46:=underlying185
 a46:=isAgg185
 z46:=sizeOf185
 v46:=zeroValue185
 t51:=underlying50
 a51:=isAgg50
 z51:=sizeOf50
 v51:=zeroValue50}
theorem Tryz.bits_Len32 (x:Int) (w:World) (b:0<=x) (c:x<=4294967295):
 Calls Tryz.prog 228 #[.int .u32 x] w λa d=>a=.returned (.int .i64 (Lib.bitLen x.toNat))/\d=w:=Any.bits_Len32 Tryz.R9 x w b c
def Tryz.Jl:Go.Shelf.Ren:=⟨λ|125=>176|128=>228|129=>229|n=>n,λ|46=>185|3=>3|51=>50|53=>30|4=>4|5=>5|9=>9|n=>n,λ|n=>n⟩
theorem Tryz.Sa:Go.Proofs.Lays.n125 Tryz.prog Tryz.Jl:={
 mixed:=by kernel_rfl
 f125:=func176.trans (congrArg some (by kernel_rfl))
 f128:=func228.trans (congrArg some (by kernel_rfl))
 f129:=func229.trans (congrArg some (by kernel_rfl))
 t3:=underlying3
 a3:=isAgg3
 z3:=sizeOf3
 v3:=zeroValue3
 t4:=underlying4
 a4:=isAgg4
 z4:=sizeOf4
 v4:=zeroValue4
 t5:=underlying5
 a5:=isAgg5
 z5:=sizeOf5
 v5:=zeroValue5
 t9:=underlying9
 a9:=isAgg9
 z9:=sizeOf9
 v9:=zeroValue9
 t46:=underlying185
 a46:=isAgg185
 z46:=sizeOf185
 v46:=zeroValue185
 t51:=underlying50
 a51:=isAgg50
 z51:=sizeOf50
 v51:=zeroValue50
 t53:=underlying30
 a53:=isAgg30
 z53:=sizeOf30
 v53:=zeroValue30}
theorem Tryz.bits_Len (x:Int) (w:World) (b:0<=x) (c:x<=18446744073709551615):
 Calls Tryz.prog 176 #[.int .u64 x] w λa d=>a=.returned (.int .i64 (Lib.bitLen x.toNat))/\d=w:=Any.bits_Len Tryz.Sa x w b c
def Tryz.Ji:Go.Shelf.Ren:=⟨λ|134=>255|129=>229|n=>n,λ|53=>30|3=>3|4=>4|46=>185|5=>5|9=>9|n=>n,λ|n=>n⟩
theorem Tryz.R7:Go.Proofs.Lays.n134 Tryz.prog Tryz.Ji:={
 mixed:=by kernel_rfl
 f129:=func229.trans (congrArg some (by kernel_rfl))
 f134:=func255.trans (congrArg some (by kernel_rfl))
 t3:=underlying3
 a3:=isAgg3
 z3:=sizeOf3
 v3:=zeroValue3
 t4:=underlying4
 a4:=isAgg4
 z4:=sizeOf4
 v4:=zeroValue4
 t5:=underlying5
 a5:=isAgg5
 z5:=sizeOf5
 v5:=zeroValue5
 t9:=underlying9
 a9:=isAgg9
 z9:=sizeOf9
 v9:=zeroValue9
 t46:=underlying185
 a46:=isAgg185
 z46:=sizeOf185
 v46:=zeroValue185
 t53:=underlying30
 a53:=isAgg30
 z53:=sizeOf30
 v53:=zeroValue30}
theorem Tryz.bits_LeadingZeros64 (x:Int) (w:World) (b:0<=x) (c:x<=18446744073709551615):
 Calls Tryz.prog 255 #[.int .u64 x] w λa d=>a=.returned (.int .i64 (64 -(Lib.bitLen x.toNat:Int)))/\d=w:=Any.bits_LeadingZeros64 Tryz.R7 x w b c
def Tryz.Jj:Go.Shelf.Ren:=⟨λ|129=>229|n=>n,λ|53=>30|3=>3|4=>4|46=>185|5=>5|9=>9|n=>n,λ|n=>n⟩
theorem Tryz.R8:Go.Proofs.Lays.n129 Tryz.prog Tryz.Jj:={
 mixed:=by kernel_rfl
 f129:=func229.trans (congrArg some (by kernel_rfl))
 t3:=underlying3
 a3:=isAgg3
 z3:=sizeOf3
 v3:=zeroValue3
 t4:=underlying4
 a4:=isAgg4
 z4:=sizeOf4
 v4:=zeroValue4
 t5:=underlying5
 a5:=isAgg5
 z5:=sizeOf5
 v5:=zeroValue5
 t9:=underlying9
 a9:=isAgg9
 z9:=sizeOf9
 v9:=zeroValue9
 t46:=underlying185
 a46:=isAgg185
 z46:=sizeOf185
 v46:=zeroValue185
 t53:=underlying30
 a53:=isAgg30
 z53:=sizeOf30
 v53:=zeroValue30}
theorem Tryz.bits_Len64 (x:Int) (w:World) (b:0<=x) (c:x<=18446744073709551615):
 Calls Tryz.prog 229 #[.int .u64 x] w λa d=>a=.returned (.int .i64 (Lib.bitLen x.toNat))/\d=w:=Any.bits_Len64 Tryz.R8 x w b c
def Tryz.Jh:Go.Shelf.Ren:=⟨λ|264=>230|n=>n,λ|53=>30|46=>185|n=>n,λ|n=>n⟩
theorem Tryz.R6:Go.Proofs.Lays.n264 Tryz.prog Tryz.Jh:={
 mixed:=by kernel_rfl
 f264:=func230.trans (congrArg some (by kernel_rfl))
 t46:=underlying185
 a46:=isAgg185
 z46:=sizeOf185
 v46:=zeroValue185
 t53:=underlying30
 a53:=isAgg30
 z53:=sizeOf30
 v53:=zeroValue30}
open Go.RowKit Go.Lib in
theorem Tryz.bits_Mul64 (x y:Nat) (b:x<18446744073709551616) (hy:y<18446744073709551616) (w:World):
 Calls Tryz.prog 230 #[.int .u64 x,.int .u64 y] w λa c=>a=.returned (.tuple #[.int .u64 ((x*y/18446744073709551616:Nat):Int),.int .u64 ((x*y%18446744073709551616:Nat):Int)])/\c=w:=Any.bits_Mul64 Tryz.R6 x y b hy w
end Go.Proofs
