/-
  The library contracts that this claim uses, laid at this program.
-/
import Derived.Shelf.Strings.Builder1
import Derived.Shelf.Strings.Builder2
import Derived.Shelf.Small.Bits
import Derived.Shelf.Small.Wraps
import Derived.Shelf.Strconv.Atoi
import Derived.Shelf.Strconv.Itoa0
import Derived.Shelf.Strconv.Itoa1
import Derived.Shelf.LaysM
import Derived.Shelf.Strconv.Itoa2
import Derived.Shelf.Strconv.Itoa3
import Derived.Shelf.Strconv.AtoiErrFast
import Derived.Shelf.Strconv.ParseIntEmpty
import Derived.Shelf.Strconv.AtoiFail
import Derived.Shelf.Strconv.Clone
import Derived.Shelf.Strconv.SyntaxError
import Derived.Shelf.LaysC
import Derived.Shelf.Strconv.ToError
import Derived.Shelf.Strconv.Lower
import Derived.Shelf.Strconv.ParseUint10
import Derived.Shelf.Strconv.ParseUint10Empty
import Derived.Shelf.Strconv.ParseUint10Any
import Derived.Shelf.Strconv.ParseInt10
import Derived.Shelf.Strconv.AtoiLong
import Derived.Shelf.Strconv.AtoiInnerAll
import Derived.Shelf.Strconv.RangeError
import Derived.Shelf.Strconv.ToErrorRange
import Derived.Shelf.Strconv.AtoiAll
import Derived.Shelf.Strconv.ErrVarAll
import Derived.Shelf.Strings.Search1
import Derived.Shelf.Strings.Search2
import Derived.Shelf.Strings.Search3
import Derived.Shelf.Strings.Cut
import Derived.Shelf.Strings.Count
import Derived.Shelf.Strings.Shaped
import Derived.Shelf.Sort.Plain
import Derived.Shelf.Strings.Prefix
import Derived.Shelf.Strings.Split
import Derived.Shelf.Strings.Replace
import Derived.Shelf.Unicode.DecodeSlow
import Derived.Shelf.Slices.Turned
import Derived.Shelf.Slices.Equal
import Derived.Ground.Names2Prog
import Derived.Shelf.Slices.Clone
import Derived.Shelf.Slices.CompactS
import Derived.Shelf.Slices.Cells
import Derived.Shelf.Slices.Empties2
import Derived.Ground.SlgnProg
import Derived.Shelf.SlicesE.Clone
import Derived.Test.YtcjjcnecopnpcaaGreatDoorProg
namespace Go.Proofs
set_option maxRecDepth 100000
open Tryz
theorem Tryz.Kf {α : Type} {a b : α} (h : a = b:=by kernel_rfl) : some a = some b:=congrArg some h
open Go.Shelf
def Tryz.lays103_ren : Ren:=⟨fun|103=>302|210=>311|206=>289|n=>n,fun|9=>9|4=>4|24=>106|3=>3|n=>n,fun|n=>n⟩
theorem Tryz.lays103 : Lays.n103 prog lays103_ren:=⟨by kernel_rfl,func302.trans Kf,func289.trans Kf,func311.trans Kf,underlying3,isAgg3,sizeOf3,zeroValue3,underlying4,isAgg4,sizeOf4,zeroValue4,underlying9,isAgg9,sizeOf9,zeroValue9,underlying106,isAgg106,sizeOf106,zeroValue106⟩
open Go.RowKit in
theorem Tryz.strings_CutPrefix (s p : ByteArray) (w : World) :
    Calls prog 302 #[.string s,.string p] w fun e w'=>e = .returned (.tuple #[.string ⟨(Lib.trimPrefix s.data.toList p.data.toList).toArray⟩,.bool (Lib.hasPrefix s.data.toList p.data.toList)]) ∧ w' = w:=Any.strings_CutPrefix lays103 s p w
def Tryz.laysM171_ren : Ren:=⟨fun|171=>101|243=>158|246=>207|283=>252|284=>253|285=>254|286=>255|129=>124|317=>279|318=>280|319=>281|320=>282|337=>299|338=>300|n=>n,fun|3=>3|9=>9|2=>2|4=>4|171=>291|0=>0|53=>92|37=>38|5=>5|173=>293|212=>312|51=>174|20=>20|213=>313|46=>131|232=>337|233=>338|n=>n,fun|17=>2|18=>3|19=>4|n=>n⟩
theorem Tryz.laysM171 : LaysM.n171 prog laysM171_ren:=⟨⟨by kernel_rfl,func124.trans Kf,func101.trans Kf,func158.trans Kf,func207.trans Kf,func252.trans Kf,func253.trans Kf,func254.trans Kf,func255.trans Kf,func279.trans Kf,func280.trans Kf,func281.trans Kf,func282.trans Kf,func299.trans Kf,func300.trans Kf,underlying0,isAgg0,sizeOf0,zeroValue0,underlying2,isAgg2,sizeOf2,zeroValue2,underlying3,isAgg3,sizeOf3,zeroValue3,underlying4,isAgg4,sizeOf4,zeroValue4,underlying5,isAgg5,sizeOf5,zeroValue5,underlying9,isAgg9,sizeOf9,zeroValue9,underlying20,isAgg20,sizeOf20,zeroValue20,underlying38,isAgg38,sizeOf38,zeroValue38,underlying131,isAgg131,sizeOf131,zeroValue131,underlying174,isAgg174,sizeOf174,zeroValue174,underlying92,isAgg92,sizeOf92,zeroValue92,underlying291,isAgg291,sizeOf291,zeroValue291,underlying293,isAgg293,sizeOf293,zeroValue293,underlying312,isAgg312,sizeOf312,zeroValue312,underlying313,isAgg313,sizeOf313,underlying337,isAgg337,sizeOf337,zeroValue337,underlying338,isAgg338,sizeOf338,zeroValue338,by kernel_rfl,by kernel_rfl,by kernel_rfl⟩,by kernel_rfl,by kernel_rfl,by kernel_rfl,by kernel_rfl,by kernel_rfl,by kernel_rfl,by kernel_rfl,by kernel_rfl,by kernel_rfl,by kernel_rfl,by kernel_rfl,by kernel_rfl,by kernel_rfl,by kernel_rfl,by kernel_rfl,by kernel_rfl,by kernel_rfl,by kernel_rfl,by kernel_rfl⟩
open Go.RowKit Go.Sort Go.Lib in
theorem Tryz.strconv_Itoa (n : Int) (h0 : -9223372036854775808 ≤ n) (h1 : n ≤ 9223372036854775807) (w : World) (htab : Lib.TabIs prog w "internal/strconv.uint64pow10" .u64 Lib.pow10Tab) :
    Calls prog 101 #[.int .i64 n] w fun e w'=>e = .returned (.string ⟨(Lib.itoa n).toArray⟩) ∧ ∃ k os,w' = grow (w.drewN k) os:=Any.strconv_Itoa laysM171 n h0 h1 w htab
def Tryz.laysC172_ren : Ren:=⟨fun|172=>157|244=>205|245=>206|247=>247|279=>248|280=>249|281=>250|282=>251|287=>276|316=>277|171=>101|205=>278|321=>297|322=>298|243=>158|246=>207|283=>252|284=>253|285=>254|286=>255|129=>124|317=>279|318=>280|319=>281|320=>282|337=>299|338=>300|n=>n,fun|9=>9|3=>3|75=>220|76=>221|4=>4|5=>5|167=>285|37=>38|0=>0|85=>286|2=>2|168=>288|53=>92|175=>306|46=>131|210=>309|127=>331|145=>334|143=>332|21=>21|171=>291|173=>293|212=>312|51=>174|20=>20|213=>313|232=>337|233=>338|80=>329|n=>n,fun|15=>0|16=>1|17=>2|18=>3|19=>4|n=>n⟩
theorem Tryz.laysAtoi : LaysC.n172 prog laysC172_ren:=⟨⟨⟨by kernel_rfl,func124.trans Kf,func101.trans Kf,func157.trans Kf,func278.trans Kf,func158.trans Kf,func205.trans Kf,func206.trans Kf,func207.trans Kf,func247.trans Kf,func248.trans Kf,func249.trans Kf,func250.trans Kf,func251.trans Kf,func252.trans Kf,func253.trans Kf,func254.trans Kf,func255.trans Kf,func276.trans Kf,func277.trans Kf,func279.trans Kf,func280.trans Kf,func281.trans Kf,func282.trans Kf,func297.trans Kf,func298.trans Kf,func299.trans Kf,func300.trans Kf,underlying0,isAgg0,sizeOf0,zeroValue0,underlying2,isAgg2,sizeOf2,zeroValue2,underlying3,isAgg3,sizeOf3,zeroValue3,underlying4,isAgg4,sizeOf4,zeroValue4,underlying5,isAgg5,sizeOf5,zeroValue5,underlying9,isAgg9,sizeOf9,zeroValue9,underlying20,isAgg20,sizeOf20,zeroValue20,underlying21,isAgg21,sizeOf21,zeroValue21,underlying38,isAgg38,sizeOf38,zeroValue38,underlying131,isAgg131,sizeOf131,zeroValue131,underlying174,isAgg174,sizeOf174,zeroValue174,underlying92,isAgg92,sizeOf92,zeroValue92,underlying220,isAgg220,sizeOf220,zeroValue220,underlying221,isAgg221,sizeOf221,zeroValue221,underlying286,isAgg286,sizeOf286,zeroValue286,underlying331,isAgg331,sizeOf331,zeroValue331,underlying332,isAgg332,sizeOf332,zeroValue332,underlying334,isAgg334,sizeOf334,zeroValue334,underlying285,isAgg285,sizeOf285,zeroValue285,underlying288,isAgg288,sizeOf288,zeroValue288,underlying291,isAgg291,sizeOf291,zeroValue291,underlying293,isAgg293,sizeOf293,zeroValue293,underlying306,isAgg306,sizeOf306,zeroValue306,underlying309,isAgg309,sizeOf309,zeroValue309,underlying312,isAgg312,sizeOf312,zeroValue312,underlying313,isAgg313,sizeOf313,underlying337,isAgg337,sizeOf337,zeroValue337,underlying338,isAgg338,sizeOf338,zeroValue338,by kernel_rfl,by kernel_rfl,by kernel_rfl,by kernel_rfl,by kernel_rfl⟩,underlying329,isAgg329,sizeOf329,zeroValue329,by kernel_rfl,by kernel_rfl,by kernel_rfl,by kernel_rfl,by kernel_rfl,by kernel_rfl,by kernel_rfl,by kernel_rfl,by kernel_rfl,by kernel_rfl,by kernel_rfl,by kernel_rfl,by kernel_rfl,by kernel_rfl,by kernel_rfl,by kernel_rfl,by kernel_rfl,by kernel_rfl,by kernel_rfl,by kernel_rfl,by kernel_rfl,by kernel_rfl,by kernel_rfl,by kernel_rfl,by kernel_rfl,by kernel_rfl,by kernel_rfl,by kernel_rfl,by kernel_rfl,by kernel_rfl,by kernel_rfl,by kernel_rfl,by kernel_rfl⟩,by kernel_rfl,by kernel_rfl,by kernel_rfl,by kernel_rfl,by kernel_rfl,by kernel_rfl,by kernel_rfl,by kernel_rfl,by kernel_rfl,by kernel_rfl,by kernel_rfl,by kernel_rfl,by kernel_rfl,by kernel_rfl,by kernel_rfl,by kernel_rfl,by kernel_rfl,by kernel_rfl,by kernel_rfl,by kernel_rfl,by kernel_rfl,by kernel_rfl,by kernel_rfl,by kernel_rfl,by kernel_rfl,by kernel_rfl,by kernel_rfl,by kernel_rfl,by kernel_rfl⟩
open Go.RowKit in
theorem Tryz.strconv_Atoi_ok (s : ByteArray) (hmax : s.size ≤ 9223372036854775806) (v : Int) (h : Lib.atoiAll s.data.toList = .ok v) (w : World) :
    Calls prog 157 #[.string s] w fun e w'=>e = .returned (.tuple #[.int .i64 v,.nilIface]) ∧ (w' = w ∨ ∃ t,w' = Lib.bytesWorld w 5 t):=Any.strconv_Atoi_ok laysAtoi s hmax v h w
open Go.RowKit in
theorem Tryz.strconv_Atoi_range (s : ByteArray) (hlim : s.size ≤ 281474976710656) (h : Lib.atoiAll s.data.toList = .range) (ev : Value) (w : World) (hv : w.cell? ⟨1,0,none⟩ = some ev) (hev : ev = .nilIface ∨ ∃ te pe,ev = .iface te pe) :
    Calls prog 157 #[.string s] w fun e w'=>∃ N,e = .returned (.tuple #[.int .i64 (Lib.atoiSat s.data.toList),.iface 288 (.pointer (some ⟨N,0,none⟩))]) ∧ w.heap.size ≤ N ∧ w'.heap[N]? = some (.cells #[.string ⟨#[65,116,111,105]⟩,.string s,ev] 309 (0,0)) ∧ Below w.heap.size w w':=Any.strconv_Atoi_range laysAtoi s hlim h ev w hv hev
def Tryz.laysM143_ren : Ren:=⟨fun|143=>293|219=>309|217=>317|225=>318|224=>319|267=>320|266=>322|314=>323|n=>n,fun|9=>9|3=>3|4=>4|5=>5|46=>131|146=>345|51=>174|n=>n,fun|1=>5|n=>n⟩
theorem Tryz.laysM143 : LaysM.n143 prog laysM143_ren:=⟨⟨by kernel_rfl,func293.trans Kf,func317.trans Kf,func309.trans Kf,func319.trans Kf,func318.trans Kf,func322.trans Kf,func320.trans Kf,func323.trans Kf,underlying3,isAgg3,sizeOf3,zeroValue3,underlying4,isAgg4,sizeOf4,zeroValue4,underlying5,isAgg5,sizeOf5,zeroValue5,underlying9,isAgg9,sizeOf9,zeroValue9,underlying131,isAgg131,sizeOf131,zeroValue131,underlying174,isAgg174,sizeOf174,zeroValue174,underlying345,isAgg345,sizeOf345,zeroValue345,by kernel_rfl⟩,by kernel_rfl,by kernel_rfl,by kernel_rfl,by kernel_rfl,by kernel_rfl,by kernel_rfl,by kernel_rfl,by kernel_rfl,fun w h=>cell_of_shapedOpen_int (zero:=#[.int .i64 0]) (t:=3) h (of_decide_eq_true (by kernel_rfl)) (by kernel_rfl) rfl (by kernel_rfl) (by kernel_rfl) underlying3⟩
def Tryz.laysM145_ren : Ren:=⟨fun|145=>285|220=>301|219=>309|217=>317|225=>318|224=>319|267=>320|266=>322|314=>323|n=>n,fun|9=>9|4=>4|59=>321|3=>3|5=>5|46=>131|146=>345|51=>174|n=>n,fun|1=>5|n=>n⟩
theorem Tryz.laysM145 : LaysM.n145 prog laysM145_ren:=⟨⟨by kernel_rfl,func285.trans Kf,func317.trans Kf,func309.trans Kf,func301.trans Kf,func319.trans Kf,func318.trans Kf,func322.trans Kf,func320.trans Kf,func323.trans Kf,underlying3,isAgg3,sizeOf3,zeroValue3,underlying4,isAgg4,sizeOf4,zeroValue4,underlying5,isAgg5,sizeOf5,zeroValue5,underlying9,isAgg9,sizeOf9,zeroValue9,underlying131,isAgg131,sizeOf131,zeroValue131,underlying174,isAgg174,sizeOf174,zeroValue174,underlying321,isAgg321,sizeOf321,zeroValue321,underlying345,isAgg345,sizeOf345,zeroValue345,by kernel_rfl⟩,by kernel_rfl,by kernel_rfl,by kernel_rfl,by kernel_rfl,by kernel_rfl,by kernel_rfl,by kernel_rfl,by kernel_rfl,by kernel_rfl,fun w h=>cell_of_shapedOpen_int (zero:=#[.int .i64 0]) (t:=3) h (of_decide_eq_true (by kernel_rfl)) (by kernel_rfl) rfl (by kernel_rfl) (by kernel_rfl) underlying3⟩
open Go.RowKit Go.Lib in
theorem Tryz.strings_Cut_shaped (s sep : ByteArray) (w : World) (h : w.ShapedOpen prog) (hs : s.size < 4294967281) :
    Calls prog 285 #[.string s,.string sep] w fun e w'=>e = .returned (.tuple #[.string ⟨(Lib.cut s.data.toList sep.data.toList).1.toArray⟩,.string ⟨(Lib.cut s.data.toList sep.data.toList).2.1.toArray⟩,.bool (Lib.cut s.data.toList sep.data.toList).2.2]) ∧ ∃ n,w' = w.drewN n:=Any.strings_Cut_shaped laysM145 s sep w h hs
def Tryz.lays190_ren : Ren:=⟨fun|190=>52|125=>77|258=>76|128=>123|129=>124|302=>114|303=>115|304=>116|305=>117|306=>118|307=>119|308=>120|309=>121|310=>122|333=>165|329=>166|330=>167|334=>168|335=>169|336=>170|344=>215|n=>n,fun|31=>47|9=>9|3=>3|46=>131|0=>0|51=>174|53=>92|4=>4|183=>167|182=>166|131=>152|5=>5|218=>227|222=>231|228=>270|229=>271|n=>n,fun|n=>n⟩
theorem Tryz.lays190 : Lays.n190 prog lays190_ren:=⟨by kernel_rfl,func77.trans Kf,func123.trans Kf,func124.trans Kf,func52.trans Kf,func76.trans Kf,func114.trans Kf,func115.trans Kf,func116.trans Kf,func117.trans Kf,func118.trans Kf,func119.trans Kf,func120.trans Kf,func121.trans Kf,func122.trans Kf,func166.trans Kf,func167.trans Kf,func165.trans Kf,func168.trans Kf,func169.trans Kf,func170.trans Kf,func215.trans Kf,underlying0,isAgg0,sizeOf0,zeroValue0,underlying3,isAgg3,sizeOf3,zeroValue3,underlying4,isAgg4,sizeOf4,zeroValue4,underlying5,isAgg5,sizeOf5,zeroValue5,underlying9,isAgg9,sizeOf9,zeroValue9,underlying47,isAgg47,sizeOf47,zeroValue47,underlying131,isAgg131,sizeOf131,zeroValue131,underlying174,isAgg174,sizeOf174,zeroValue174,underlying92,isAgg92,sizeOf92,zeroValue92,underlying152,isAgg152,sizeOf152,zeroValue152,underlying166,isAgg166,sizeOf166,zeroValue166,underlying167,isAgg167,sizeOf167,zeroValue167,underlying227,isAgg227,sizeOf227,zeroValue227,underlying231,isAgg231,sizeOf231,zeroValue231,underlying270,isAgg270,sizeOf270,zeroValue270,underlying271,isAgg271,sizeOf271,zeroValue271⟩
open Go.Sort Go.RowKit in
theorem Tryz.slices_Sort_string (blk off cap : Nat) (ss : List (List UInt8)) (w : World) (hH : Holds encStr w blk off ss.toArray) (hblk : blk < w.heap.size) (hsz : ss.length < 4611686018427387904) :
    Calls prog 52 #[.slice (some ⟨blk,off,none⟩) ss.length cap] w fun e w' =>
      e = .returned (.tuple #[]) ∧ ∃ n os,w' = grow (putRow encStr (Sort.ahead w n) blk off (ss.mergeSort fun x y=>decide (x ≤ y)).toArray) os:=Any.slices_Sort_string lays190 blk off cap ss w hH hblk hsz
def Tryz.lays99_ren : Ren:=⟨fun|99=>271|206=>289|n=>n,fun|9=>9|4=>4|3=>3|n=>n,fun|n=>n⟩
theorem Tryz.lays99 : Lays.n99 prog lays99_ren:=⟨by kernel_rfl,func271.trans Kf,func289.trans Kf,underlying3,isAgg3,sizeOf3,zeroValue3,underlying4,isAgg4,sizeOf4,zeroValue4,underlying9,isAgg9,sizeOf9,zeroValue9⟩
open Go.RowKit Go.Lib in
theorem Tryz.strings_HasPrefix (s p : ByteArray) (w : World) :
    Calls prog 271 #[.string s,.string p] w fun e w'=>e = .returned (.bool (Lib.hasPrefix s.data.toList p.data.toList)) ∧ w' = w:=Any.strings_HasPrefix lays99 s p w
def Tryz.lays155_ren : Ren:=⟨fun|155=>243|154=>273|138=>291|165=>292|143=>293|166=>294|197=>295|169=>296|195=>305|218=>306|240=>307|241=>308|219=>309|260=>310|276=>315|277=>316|217=>317|225=>318|224=>319|267=>320|266=>322|314=>323|n=>n,fun|9=>9|3=>3|4=>4|72=>326|0=>0|76=>221|105=>327|21=>21|5=>5|70=>324|20=>20|37=>38|75=>220|127=>331|164=>339|46=>131|119=>341|139=>344|138=>343|146=>345|51=>174|80=>329|n=>n,fun|1=>5|3=>6|4=>7|n=>n⟩
theorem Tryz.lays155 : Lays.n155 prog lays155_ren:=⟨by kernel_rfl,func291.trans Kf,func293.trans Kf,func273.trans Kf,func243.trans Kf,func292.trans Kf,func294.trans Kf,func296.trans Kf,func305.trans Kf,func295.trans Kf,func317.trans Kf,func306.trans Kf,func309.trans Kf,func319.trans Kf,func318.trans Kf,func307.trans Kf,func308.trans Kf,func310.trans Kf,func322.trans Kf,func320.trans Kf,func315.trans Kf,func316.trans Kf,func323.trans Kf,underlying0,isAgg0,sizeOf0,zeroValue0,underlying3,isAgg3,sizeOf3,zeroValue3,underlying4,isAgg4,sizeOf4,zeroValue4,underlying5,isAgg5,sizeOf5,zeroValue5,underlying9,isAgg9,sizeOf9,zeroValue9,underlying20,isAgg20,sizeOf20,zeroValue20,underlying21,isAgg21,sizeOf21,zeroValue21,underlying38,isAgg38,sizeOf38,zeroValue38,underlying131,isAgg131,sizeOf131,zeroValue131,underlying174,isAgg174,sizeOf174,zeroValue174,underlying324,isAgg324,sizeOf324,zeroValue324,underlying326,isAgg326,sizeOf326,zeroValue326,underlying220,isAgg220,sizeOf220,zeroValue220,underlying221,isAgg221,sizeOf221,zeroValue221,underlying327,isAgg327,sizeOf327,zeroValue327,underlying341,isAgg341,sizeOf341,underlying331,isAgg331,sizeOf331,zeroValue331,underlying343,isAgg343,sizeOf343,zeroValue343,underlying344,isAgg344,sizeOf344,zeroValue344,underlying345,isAgg345,sizeOf345,zeroValue345,underlying339,isAgg339,sizeOf339,zeroValue339,by kernel_rfl,by kernel_rfl,by kernel_rfl⟩
theorem Tryz.Builder_Extra_155 : Builder.Extra prog lays155_ren:={
  sizeBuilder:=by kernel_rfl
  liesBuilder:=by kernel_rfl
  t5:=underlying5
  a5:=isAgg5
  z5:=sizeOf5
  v5:=zeroValue5
  infoByte:=by kernel_rfl
  cellsByte:=by kernel_rfl
  sizeByte:=by kernel_rfl
  neB5:=by decide }
open Go.RowKit Go.Lib in
theorem Tryz.strings_ReplaceAll (s old new : ByteArray) (m : Int) (w : World) (hs : s.size < 4294967281) (hm : w.cell? ⟨5,0,none⟩ = some (.int .i64 m)) (h1 : 1 ≤ old.size) (hlen : s.size + Lib.countB s old * new.size ≤ 140737488355328) :
    Calls prog 243 #[.string s,.string old,.string new] w fun e w' =>
      e = .returned (.string ⟨(Lib.replaceAll s.data.toList old.data.toList new.data.toList).toArray⟩) ∧ Below w.heap.size w w':=Any.strings_ReplaceAll lays155 Builder_Extra_155 s old new m w hs hm h1 hlen
def Tryz.lays107_ren : Ren:=⟨fun|107=>163|108=>211|n=>n,fun|28=>75|3=>3|4=>4|0=>0|n=>n,fun|n=>n⟩
theorem Tryz.lays107 : Lays.n107 prog lays107_ren:=⟨by kernel_rfl,func163.trans Kf,func211.trans Kf,underlying0,isAgg0,sizeOf0,zeroValue0,underlying3,isAgg3,sizeOf3,zeroValue3,underlying4,isAgg4,sizeOf4,zeroValue4,underlying75,isAgg75,sizeOf75,zeroValue75⟩
open Go.Lib in
theorem Tryz.slices_Contains_int (b off n c : Nat) (zs : List Int) (x : Int) (w : World) (hz : n ≤ zs.length) (hbig : n ≤ 9223372036854775807) (hc : ∀ j,j < zs.length → w.cell? ⟨b,off + j,none⟩ = some (.int .i64 (zs.getD j 0))) :
    Calls prog 163 #[.slice (some ⟨b,off,none⟩) n c,.int .i64 x] w fun e w'=>e = .returned (.bool ((zs.take n).contains x)) ∧ w' = w:=Any.slices_Contains_int lays107 b off n c zs x w hz hbig hc
open Go.Lib in
theorem Tryz.slices_Contains_int_empty (a : Option Addr) (c : Nat) (x : Int) (w : World) :
    Calls prog 163 #[.slice a 0 c,.int .i64 x] w fun e w'=>e = .returned (.bool false) ∧ w' = w:=Any.slices_Contains_int_empty lays107 a c x w
def Tryz.lays194_ren : Ren:=⟨fun|194=>53|n=>n,fun|31=>47|9=>9|3=>3|4=>4|0=>0|n=>n,fun|n=>n⟩
theorem Tryz.lays194 : Lays.n194 prog lays194_ren:=⟨by kernel_rfl,func53.trans Kf,underlying0,isAgg0,sizeOf0,zeroValue0,underlying3,isAgg3,sizeOf3,zeroValue3,underlying4,isAgg4,sizeOf4,zeroValue4,underlying9,isAgg9,sizeOf9,zeroValue9,underlying47,isAgg47,sizeOf47,zeroValue47⟩
open Go.RowKit Go.Lib Go.Sort in
theorem Tryz.slices_Compact_string (blk off cap : Nat) (zs : List (List UInt8)) (w : World) (hH : Holds encStr w blk off zs.toArray) (hsz : zs.length ≤ 9223372036854775807) (hcap : zs.length ≤ cap) :
    Calls prog 53 #[.slice (some ⟨blk,off,none⟩) zs.length cap] w fun e w'=>e = .returned (.slice (some ⟨blk,off,none⟩) (Lib.compact zs).length cap) ∧ ∃ q,w' = putRow encStr (Sort.ahead w q) blk off (Lib.compact zs ++ List.replicate (zs.length - (Lib.compact zs).length) []).toArray:=Any.slices_Compact_string lays194 blk off cap zs w hH hsz hcap
open Go.RowKit Go.Lib Go.Sort in
theorem Tryz.slices_Compact_string_empty (a : Option Addr) (cap : Nat) (w : World) :
    Calls prog 53 #[.slice a 0 cap] w fun e w'=>e = .returned (.slice a 0 cap) ∧ w' = w:=Any.slices_Compact_string_empty lays194 a cap w
end Go.Proofs
