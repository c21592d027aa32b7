/-
  The library contracts that this claim uses, laid at this program.
-/
import Derived.Shelf.Strings.Builder1
import Derived.Shelf.Strings.Builder2
import Derived.Shelf.Small.Wraps
import Derived.Shelf.Strconv.Atoi
import Derived.Shelf.Strconv.Itoa0
import Derived.Shelf.Strconv.Itoa1
import Derived.Shelf.LaysM
import Derived.Shelf.Strconv.Itoa2
import Derived.Shelf.Strconv.Itoa3
import Derived.Shelf.Strconv.AtoiErrFast
import Derived.Shelf.Strconv.ParseIntEmpty
import Derived.Shelf.Strconv.AtoiFail
import Derived.Shelf.Strconv.Clone
import Derived.Shelf.Strconv.SyntaxError
import Derived.Shelf.LaysC
import Derived.Shelf.Strconv.ToError
import Derived.Shelf.Strconv.Lower
import Derived.Shelf.Strconv.ParseUint10
import Derived.Shelf.Strconv.ParseUint10Empty
import Derived.Shelf.Strconv.ParseUint10Any
import Derived.Shelf.Strconv.ParseInt10
import Derived.Shelf.Strconv.AtoiLong
import Derived.Shelf.Strconv.AtoiInnerAll
import Derived.Shelf.Strconv.RangeError
import Derived.Shelf.Strconv.ToErrorRange
import Derived.Shelf.Strconv.AtoiAll
import Derived.Shelf.Strconv.ErrVarAll
import Derived.Shelf.Strings.Search1
import Derived.Shelf.Strings.Search2
import Derived.Shelf.Strings.Search3
import Derived.Shelf.Strings.Cut
import Derived.Shelf.Strings.Count
import Derived.Shelf.Strings.Shaped
import Derived.Shelf.Strings.Prefix
import Derived.Shelf.Strings.Split
import Derived.Shelf.Strings.Replace
import Derived.Shelf.Bits.Mul64
import Derived.Shelf.Unicode.DecodeSlow
import Derived.Shelf.Slices.Turned
import Derived.Shelf.Slices.Equal
import Derived.Ground.Names2Prog
import Derived.Shelf.Slices.ReverseS
import Derived.Shelf.Slices.Clone
import Derived.Shelf.Slices.Cells
import Derived.Shelf.Slices.Empties2
import Derived.Test.YtefaigjfkddelaaGreatDoorProg
namespace Go.Proofs
set_option maxRecDepth 100000
open Tryz
theorem Tryz.Kf {α : Type} {a b : α} (h : a = b:=by kernel_rfl) : some a = some b:=congrArg some h
open Go.Shelf
def Tryz.lays103_ren : Ren:=⟨fun|103=>249|210=>258|206=>242|n=>n,fun|9=>9|4=>4|24=>269|3=>3|n=>n,fun|n=>n⟩
theorem Tryz.lays103 : Lays.n103 prog lays103_ren:=⟨by kernel_rfl,func249.trans Kf,func242.trans Kf,func258.trans Kf,underlying3,isAgg3,sizeOf3,zeroValue3,underlying4,isAgg4,sizeOf4,zeroValue4,underlying9,isAgg9,sizeOf9,zeroValue9,underlying269,isAgg269,sizeOf269,zeroValue269⟩
open Go.RowKit in
theorem Tryz.strings_CutPrefix (s p : ByteArray) (w : World) :
    Calls prog 249 #[.string s,.string p] w fun e w'=>e = .returned (.tuple #[.string ⟨(Lib.trimPrefix s.data.toList p.data.toList).toArray⟩,.bool (Lib.hasPrefix s.data.toList p.data.toList)]) ∧ w' = w:=Any.strings_CutPrefix lays103 s p w
def Tryz.laysM171_ren : Ren:=⟨fun|171=>88|243=>129|246=>173|283=>209|284=>210|285=>211|286=>212|129=>228|317=>227|318=>229|319=>230|320=>231|337=>246|338=>247|n=>n,fun|3=>3|9=>9|2=>2|4=>4|171=>230|0=>0|53=>64|37=>36|5=>5|173=>233|212=>247|51=>123|20=>20|213=>248|46=>86|232=>272|233=>273|n=>n,fun|17=>2|18=>3|19=>4|n=>n⟩
theorem Tryz.laysM171 : LaysM.n171 prog laysM171_ren:=⟨⟨by kernel_rfl,func228.trans Kf,func88.trans Kf,func129.trans Kf,func173.trans Kf,func209.trans Kf,func210.trans Kf,func211.trans Kf,func212.trans Kf,func227.trans Kf,func229.trans Kf,func230.trans Kf,func231.trans Kf,func246.trans Kf,func247.trans Kf,underlying0,isAgg0,sizeOf0,zeroValue0,underlying2,isAgg2,sizeOf2,zeroValue2,underlying3,isAgg3,sizeOf3,zeroValue3,underlying4,isAgg4,sizeOf4,zeroValue4,underlying5,isAgg5,sizeOf5,zeroValue5,underlying9,isAgg9,sizeOf9,zeroValue9,underlying20,isAgg20,sizeOf20,zeroValue20,underlying36,isAgg36,sizeOf36,zeroValue36,underlying86,isAgg86,sizeOf86,zeroValue86,underlying123,isAgg123,sizeOf123,zeroValue123,underlying64,isAgg64,sizeOf64,zeroValue64,underlying230,isAgg230,sizeOf230,zeroValue230,underlying233,isAgg233,sizeOf233,zeroValue233,underlying247,isAgg247,sizeOf247,zeroValue247,underlying248,isAgg248,sizeOf248,underlying272,isAgg272,sizeOf272,zeroValue272,underlying273,isAgg273,sizeOf273,zeroValue273,by kernel_rfl,by kernel_rfl,by kernel_rfl⟩,by kernel_rfl,by kernel_rfl,by kernel_rfl,by kernel_rfl,by kernel_rfl,by kernel_rfl,by kernel_rfl,by kernel_rfl,by kernel_rfl,by kernel_rfl,by kernel_rfl,by kernel_rfl,by kernel_rfl,by kernel_rfl,by kernel_rfl,by kernel_rfl,by kernel_rfl,by kernel_rfl,by kernel_rfl⟩
open Go.RowKit Go.Sort Go.Lib in
theorem Tryz.strconv_Itoa (n : Int) (h0 : -9223372036854775808 ≤ n) (h1 : n ≤ 9223372036854775807) (w : World) (htab : Lib.TabIs prog w "internal/strconv.uint64pow10" .u64 Lib.pow10Tab) :
    Calls prog 88 #[.int .i64 n] w fun e w'=>e = .returned (.string ⟨(Lib.itoa n).toArray⟩) ∧ ∃ k os,w' = grow (w.drewN k) os:=Any.strconv_Itoa laysM171 n h0 h1 w htab
def Tryz.laysC172_ren : Ren:=⟨fun|172=>128|244=>171|245=>172|247=>204|279=>205|280=>206|281=>207|282=>208|287=>224|316=>225|171=>88|205=>226|321=>244|322=>245|243=>129|246=>173|283=>209|284=>210|285=>211|286=>212|129=>228|317=>227|318=>229|319=>230|320=>231|337=>246|338=>247|n=>n,fun|9=>9|3=>3|75=>171|76=>172|4=>4|5=>5|167=>224|37=>36|0=>0|85=>225|2=>2|168=>227|53=>64|175=>241|46=>86|210=>244|127=>264|145=>267|143=>265|21=>21|171=>230|173=>233|212=>247|51=>123|20=>20|213=>248|232=>272|233=>273|80=>262|n=>n,fun|15=>0|16=>1|17=>2|18=>3|19=>4|n=>n⟩
theorem Tryz.laysAtoi : LaysC.n172 prog laysC172_ren:=⟨⟨⟨by kernel_rfl,func228.trans Kf,func88.trans Kf,func128.trans Kf,func226.trans Kf,func129.trans Kf,func171.trans Kf,func172.trans Kf,func173.trans Kf,func204.trans Kf,func205.trans Kf,func206.trans Kf,func207.trans Kf,func208.trans Kf,func209.trans Kf,func210.trans Kf,func211.trans Kf,func212.trans Kf,func224.trans Kf,func225.trans Kf,func227.trans Kf,func229.trans Kf,func230.trans Kf,func231.trans Kf,func244.trans Kf,func245.trans Kf,func246.trans Kf,func247.trans Kf,underlying0,isAgg0,sizeOf0,zeroValue0,underlying2,isAgg2,sizeOf2,zeroValue2,underlying3,isAgg3,sizeOf3,zeroValue3,underlying4,isAgg4,sizeOf4,zeroValue4,underlying5,isAgg5,sizeOf5,zeroValue5,underlying9,isAgg9,sizeOf9,zeroValue9,underlying20,isAgg20,sizeOf20,zeroValue20,underlying21,isAgg21,sizeOf21,zeroValue21,underlying36,isAgg36,sizeOf36,zeroValue36,underlying86,isAgg86,sizeOf86,zeroValue86,underlying123,isAgg123,sizeOf123,zeroValue123,underlying64,isAgg64,sizeOf64,zeroValue64,underlying171,isAgg171,sizeOf171,zeroValue171,underlying172,isAgg172,sizeOf172,zeroValue172,underlying225,isAgg225,sizeOf225,zeroValue225,underlying264,isAgg264,sizeOf264,zeroValue264,underlying265,isAgg265,sizeOf265,zeroValue265,underlying267,isAgg267,sizeOf267,zeroValue267,underlying224,isAgg224,sizeOf224,zeroValue224,underlying227,isAgg227,sizeOf227,zeroValue227,underlying230,isAgg230,sizeOf230,zeroValue230,underlying233,isAgg233,sizeOf233,zeroValue233,underlying241,isAgg241,sizeOf241,zeroValue241,underlying244,isAgg244,sizeOf244,zeroValue244,underlying247,isAgg247,sizeOf247,zeroValue247,underlying248,isAgg248,sizeOf248,underlying272,isAgg272,sizeOf272,zeroValue272,underlying273,isAgg273,sizeOf273,zeroValue273,by kernel_rfl,by kernel_rfl,by kernel_rfl,by kernel_rfl,by kernel_rfl⟩,underlying262,isAgg262,sizeOf262,zeroValue262,by kernel_rfl,by kernel_rfl,by kernel_rfl,by kernel_rfl,by kernel_rfl,by kernel_rfl,by kernel_rfl,by kernel_rfl,by kernel_rfl,by kernel_rfl,by kernel_rfl,by kernel_rfl,by kernel_rfl,by kernel_rfl,by kernel_rfl,by kernel_rfl,by kernel_rfl,by kernel_rfl,by kernel_rfl,by kernel_rfl,by kernel_rfl,by kernel_rfl,by kernel_rfl,by kernel_rfl,by kernel_rfl,by kernel_rfl,by kernel_rfl,by kernel_rfl,by kernel_rfl,by kernel_rfl,by kernel_rfl,by kernel_rfl,by kernel_rfl⟩,by kernel_rfl,by kernel_rfl,by kernel_rfl,by kernel_rfl,by kernel_rfl,by kernel_rfl,by kernel_rfl,by kernel_rfl,by kernel_rfl,by kernel_rfl,by kernel_rfl,by kernel_rfl,by kernel_rfl,by kernel_rfl,by kernel_rfl,by kernel_rfl,by kernel_rfl,by kernel_rfl,by kernel_rfl,by kernel_rfl,by kernel_rfl,by kernel_rfl,by kernel_rfl,by kernel_rfl,by kernel_rfl,by kernel_rfl,by kernel_rfl,by kernel_rfl,by kernel_rfl⟩
open Go.RowKit in
theorem Tryz.strconv_Atoi_ok (s : ByteArray) (hmax : s.size ≤ 9223372036854775806) (v : Int) (h : Lib.atoiAll s.data.toList = .ok v) (w : World) :
    Calls prog 128 #[.string s] w fun e w'=>e = .returned (.tuple #[.int .i64 v,.nilIface]) ∧ (w' = w ∨ ∃ t,w' = Lib.bytesWorld w 5 t):=Any.strconv_Atoi_ok laysAtoi s hmax v h w
open Go.RowKit in
theorem Tryz.strconv_Atoi_range (s : ByteArray) (hlim : s.size ≤ 281474976710656) (h : Lib.atoiAll s.data.toList = .range) (ev : Value) (w : World) (hv : w.cell? ⟨1,0,none⟩ = some ev) (hev : ev = .nilIface ∨ ∃ te pe,ev = .iface te pe) :
    Calls prog 128 #[.string s] w fun e w'=>∃ N,e = .returned (.tuple #[.int .i64 (Lib.atoiSat s.data.toList),.iface 227 (.pointer (some ⟨N,0,none⟩))]) ∧ w.heap.size ≤ N ∧ w'.heap[N]? = some (.cells #[.string ⟨#[65,116,111,105]⟩,.string s,ev] 244 (0,0)) ∧ Below w.heap.size w w':=Any.strconv_Atoi_range laysAtoi s hlim h ev w hv hev
def Tryz.laysM143_ren : Ren:=⟨fun|143=>238|219=>254|217=>261|225=>262|224=>263|267=>264|266=>268|314=>269|n=>n,fun|9=>9|3=>3|4=>4|5=>5|46=>86|146=>124|51=>123|n=>n,fun|1=>5|n=>n⟩
theorem Tryz.laysM143 : LaysM.n143 prog laysM143_ren:=⟨⟨by kernel_rfl,func238.trans Kf,func261.trans Kf,func254.trans Kf,func263.trans Kf,func262.trans Kf,func268.trans Kf,func264.trans Kf,func269.trans Kf,underlying3,isAgg3,sizeOf3,zeroValue3,underlying4,isAgg4,sizeOf4,zeroValue4,underlying5,isAgg5,sizeOf5,zeroValue5,underlying9,isAgg9,sizeOf9,zeroValue9,underlying86,isAgg86,sizeOf86,zeroValue86,underlying123,isAgg123,sizeOf123,zeroValue123,underlying124,isAgg124,sizeOf124,zeroValue124,by kernel_rfl⟩,by kernel_rfl,by kernel_rfl,by kernel_rfl,by kernel_rfl,by kernel_rfl,by kernel_rfl,by kernel_rfl,by kernel_rfl,fun w h=>cell_of_shapedOpen_int (zero:=#[.int .i64 0]) (t:=3) h (of_decide_eq_true (by kernel_rfl)) (by kernel_rfl) rfl (by kernel_rfl) (by kernel_rfl) underlying3⟩
def Tryz.laysM145_ren : Ren:=⟨fun|145=>232|220=>248|219=>254|217=>261|225=>262|224=>263|267=>264|266=>268|314=>269|n=>n,fun|9=>9|4=>4|59=>254|3=>3|5=>5|46=>86|146=>124|51=>123|n=>n,fun|1=>5|n=>n⟩
theorem Tryz.laysM145 : LaysM.n145 prog laysM145_ren:=⟨⟨by kernel_rfl,func232.trans Kf,func261.trans Kf,func254.trans Kf,func248.trans Kf,func263.trans Kf,func262.trans Kf,func268.trans Kf,func264.trans Kf,func269.trans Kf,underlying3,isAgg3,sizeOf3,zeroValue3,underlying4,isAgg4,sizeOf4,zeroValue4,underlying5,isAgg5,sizeOf5,zeroValue5,underlying9,isAgg9,sizeOf9,zeroValue9,underlying86,isAgg86,sizeOf86,zeroValue86,underlying123,isAgg123,sizeOf123,zeroValue123,underlying254,isAgg254,sizeOf254,zeroValue254,underlying124,isAgg124,sizeOf124,zeroValue124,by kernel_rfl⟩,by kernel_rfl,by kernel_rfl,by kernel_rfl,by kernel_rfl,by kernel_rfl,by kernel_rfl,by kernel_rfl,by kernel_rfl,by kernel_rfl,fun w h=>cell_of_shapedOpen_int (zero:=#[.int .i64 0]) (t:=3) h (of_decide_eq_true (by kernel_rfl)) (by kernel_rfl) rfl (by kernel_rfl) (by kernel_rfl) underlying3⟩
open Go.RowKit Go.Lib in
theorem Tryz.strings_Cut_shaped (s sep : ByteArray) (w : World) (h : w.ShapedOpen prog) (hs : s.size < 4294967281) :
    Calls prog 232 #[.string s,.string sep] w fun e w'=>e = .returned (.tuple #[.string ⟨(Lib.cut s.data.toList sep.data.toList).1.toArray⟩,.string ⟨(Lib.cut s.data.toList sep.data.toList).2.1.toArray⟩,.bool (Lib.cut s.data.toList sep.data.toList).2.2]) ∧ ∃ n,w' = w.drewN n:=Any.strings_Cut_shaped laysM145 s sep w h hs
def Tryz.lays99_ren : Ren:=⟨fun|99=>222|206=>242|n=>n,fun|9=>9|4=>4|3=>3|n=>n,fun|n=>n⟩
theorem Tryz.lays99 : Lays.n99 prog lays99_ren:=⟨by kernel_rfl,func222.trans Kf,func242.trans Kf,underlying3,isAgg3,sizeOf3,zeroValue3,underlying4,isAgg4,sizeOf4,zeroValue4,underlying9,isAgg9,sizeOf9,zeroValue9⟩
open Go.RowKit Go.Lib in
theorem Tryz.strings_HasPrefix (s p : ByteArray) (w : World) :
    Calls prog 222 #[.string s,.string p] w fun e w'=>e = .returned (.bool (Lib.hasPrefix s.data.toList p.data.toList)) ∧ w' = w:=Any.strings_HasPrefix lays99 s p w
def Tryz.lays155_ren : Ren:=⟨fun|155=>184|154=>217|138=>236|165=>237|143=>238|166=>239|197=>240|169=>241|195=>250|218=>251|240=>252|241=>253|219=>254|260=>255|276=>259|277=>260|217=>261|225=>262|224=>263|267=>264|266=>268|314=>269|n=>n,fun|9=>9|3=>3|4=>4|72=>259|0=>0|76=>172|105=>260|21=>21|5=>5|70=>257|20=>20|37=>36|75=>171|127=>264|164=>274|46=>86|119=>276|139=>279|138=>278|146=>124|51=>123|80=>262|n=>n,fun|1=>5|3=>6|4=>7|n=>n⟩
theorem Tryz.lays155 : Lays.n155 prog lays155_ren:=⟨by kernel_rfl,func236.trans Kf,func238.trans Kf,func217.trans Kf,func184.trans Kf,func237.trans Kf,func239.trans Kf,func241.trans Kf,func250.trans Kf,func240.trans Kf,func261.trans Kf,func251.trans Kf,func254.trans Kf,func263.trans Kf,func262.trans Kf,func252.trans Kf,func253.trans Kf,func255.trans Kf,func268.trans Kf,func264.trans Kf,func259.trans Kf,func260.trans Kf,func269.trans Kf,underlying0,isAgg0,sizeOf0,zeroValue0,underlying3,isAgg3,sizeOf3,zeroValue3,underlying4,isAgg4,sizeOf4,zeroValue4,underlying5,isAgg5,sizeOf5,zeroValue5,underlying9,isAgg9,sizeOf9,zeroValue9,underlying20,isAgg20,sizeOf20,zeroValue20,underlying21,isAgg21,sizeOf21,zeroValue21,underlying36,isAgg36,sizeOf36,zeroValue36,underlying86,isAgg86,sizeOf86,zeroValue86,underlying123,isAgg123,sizeOf123,zeroValue123,underlying257,isAgg257,sizeOf257,zeroValue257,underlying259,isAgg259,sizeOf259,zeroValue259,underlying171,isAgg171,sizeOf171,zeroValue171,underlying172,isAgg172,sizeOf172,zeroValue172,underlying260,isAgg260,sizeOf260,zeroValue260,underlying276,isAgg276,sizeOf276,underlying264,isAgg264,sizeOf264,zeroValue264,underlying278,isAgg278,sizeOf278,zeroValue278,underlying279,isAgg279,sizeOf279,zeroValue279,underlying124,isAgg124,sizeOf124,zeroValue124,underlying274,isAgg274,sizeOf274,zeroValue274,by kernel_rfl,by kernel_rfl,by kernel_rfl⟩
theorem Tryz.Builder_Extra_155 : Builder.Extra prog lays155_ren:={
  sizeBuilder:=by kernel_rfl
  liesBuilder:=by kernel_rfl
  t5:=underlying5
  a5:=isAgg5
  z5:=sizeOf5
  v5:=zeroValue5
  infoByte:=by kernel_rfl
  cellsByte:=by kernel_rfl
  sizeByte:=by kernel_rfl
  neB5:=by decide }
open Go.RowKit Go.Lib in
theorem Tryz.strings_ReplaceAll (s old new : ByteArray) (m : Int) (w : World) (hs : s.size < 4294967281) (hm : w.cell? ⟨5,0,none⟩ = some (.int .i64 m)) (h1 : 1 ≤ old.size) (hlen : s.size + Lib.countB s old * new.size ≤ 140737488355328) :
    Calls prog 184 #[.string s,.string old,.string new] w fun e w' =>
      e = .returned (.string ⟨(Lib.replaceAll s.data.toList old.data.toList new.data.toList).toArray⟩) ∧ Below w.heap.size w w':=Any.strings_ReplaceAll lays155 Builder_Extra_155 s old new m w hs hm h1 hlen
def Tryz.lays212_ren : Ren:=⟨fun|212=>62|263=>89|264=>90|n=>n,fun|46=>86|51=>123|146=>124|53=>64|148=>126|n=>n,fun|n=>n⟩
theorem Tryz.lays212 : Lays.n212 prog lays212_ren:=⟨by kernel_rfl,func62.trans Kf,func89.trans Kf,func90.trans Kf,underlying86,isAgg86,sizeOf86,zeroValue86,underlying123,isAgg123,sizeOf123,zeroValue123,underlying64,isAgg64,sizeOf64,zeroValue64,underlying124,isAgg124,sizeOf124,zeroValue124,underlying126,isAgg126,sizeOf126,zeroValue126⟩
open Go.RowKit Go.Lib in
theorem Tryz.bits_Mul (x y : Nat) (hx : x < 18446744073709551616) (hy : y < 18446744073709551616) (w : World) :
    Calls prog 62 #[.int .u64 x,.int .u64 y] w fun e w'=>e = .returned (.tuple #[.int .u64 ((x * y / 18446744073709551616 : Nat) : Int),.int .u64 ((x * y % 18446744073709551616 : Nat) : Int)]) ∧ w' = w:=Any.bits_Mul lays212 x y hx hy w
def Tryz.laysNm217_ren : Ren:=⟨fun|17=>27|n=>n,fun|24=>26|9=>9|3=>3|4=>4|0=>0|n=>n,fun|n=>n⟩
theorem Tryz.laysNm217 : Lays2.n17 prog laysNm217_ren:=⟨by kernel_rfl,func27.trans Kf,underlying0,isAgg0,sizeOf0,zeroValue0,underlying3,isAgg3,sizeOf3,zeroValue3,underlying4,isAgg4,sizeOf4,zeroValue4,underlying9,isAgg9,sizeOf9,zeroValue9,underlying26,isAgg26,sizeOf26,zeroValue26⟩
open Go.RowKit Go.Lib Go.Sort in
theorem Tryz.slices_Reverse_string (blk off cap : Nat) (zs : List (List UInt8)) (w : World) (hH : Holds encStr w blk off zs.toArray) (hsz : zs.length ≤ 9223372036854775807) :
    Calls prog 27 #[.slice (some ⟨blk,off,none⟩) zs.length cap] w fun e w'=>e = .returned (.tuple #[]) ∧ ∃ n,w' = putRow encStr (Sort.ahead w n) blk off zs.reverse.toArray:=Any.slices_Reverse_string laysNm217 blk off cap zs w hH hsz
open Go.RowKit Go.Lib Go.Sort in
theorem Tryz.slices_Reverse_string_empty (a : Option Addr) (cap : Nat) (w : World) :
    Calls prog 27 #[.slice a 0 cap] w fun e w'=>e = .returned (.tuple #[]) ∧ w' = w:=Any.slices_Reverse_string_empty laysNm217 a cap w
end Go.Proofs
