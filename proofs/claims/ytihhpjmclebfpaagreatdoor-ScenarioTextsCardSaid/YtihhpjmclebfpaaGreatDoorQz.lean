/- A part of the proof. Here: contracts of library functions. -/
import Derived.Shelf.Strings.OnBuilder
import Derived.Shelf.Small.Strs
import Derived.Shelf.Small.Wraps
import Derived.Shelf.Strconv.Itoa4
import Derived.Shelf.Strconv.ErrVar
import Derived.Shelf.Strconv.ErrVarAll
import Derived.Shelf.Strconv.ErrVarParseInt
import Derived.Shelf.Strings.Shaped
import Derived.Shelf.Sort.Plain
import Derived.Shelf.Strings.LastIndex
import Derived.Shelf.GgClosure.StringsRunes
import Derived.Shelf.Strings.SplitShaped
import Derived.Shelf.Strings.Explode
import Derived.Shelf.Unicode.IsSpaceAnyD
import Derived.Shelf.Unicode.ExclAny
import Derived.Shelf.Strings.BuilderCap
import Derived.Shelf.Slices.Turned
import Derived.Shelf.Slices.Clone
import Derived.Shelf.Slices.SearchI
import Derived.Shelf.Slices.Cells
import Derived.Shelf.Slices.In.SortNone
import Derived.Shelf.Slices.Empties2
import Derived.Shelf.SlicesE.DeleteFunc
import Derived.Test.YtihhpjmclebfpaaGreatDoorProg
set_option linter.defProp false
set_option linter.unusedVariables false
set_option linter.unusedSimpArgs false
namespace Go.Proofs
open Go.Shelf
def Tryz.lk{p:Prop}(h:p:=by constructor<;>first|(intros;kernel_rfl)|(constructor<;>first|(intros;kernel_rfl)|(constructor<;>intros<;>kernel_rfl))):p:=h
def Tryz.lays156_ren:Go.Shelf.Ren:=⟨fun|156=>19|165=>51|166=>16|169=>22|240=>46|241=>141|276=>138|277=>253|n=>n,fun|31=>22|9=>9|3=>3|4=>4|0=>0|20=>20|72=>53|76=>56|70=>50|37=>51|75=>55|127=>108|164=>174|5=>5|80=>64|n=>n,fun|n=>n⟩
def Tryz.lays156:Go.Proofs.Lays.n156 Tryz.prog Tryz.lays156_ren:=Tryz.lk
def Tryz.Builder_Extra_156:Builder.Extra Tryz.prog Tryz.lays156_ren:={
 sizeBuilder:=by kernel_rfl
 liesBuilder:=by kernel_rfl
 t5:=Tryz.underlying5
 a5:=Tryz.isAgg5
 z5:=Tryz.sizeOf5
 v5:=Tryz.zeroValue5
 infoByte:=by kernel_rfl
 cellsByte:=by kernel_rfl
 sizeByte:=by kernel_rfl
 neB5:=by decide}
open Go.RowKit in
def Tryz.strings_Join_none(a:Option Addr)(c:Nat)(sep:ByteArray)(w:World):
 Calls Tryz.prog 19 #[.slice a 0 c,.string sep] w λe w'=>e= .returned (.string ⟨#[]⟩)/\w'=w:=Any.strings_Join_none Tryz.lays156 Tryz.Builder_Extra_156 a c sep w
open Go.RowKit in
def Tryz.strings_Join(bk o c:Nat)(xs:List ByteArray)(sep:ByteArray)(w:World)(hcells:∀(j:Nat)x,xs[j]?=some x->w.cell? ⟨bk,o+j,none⟩=some (.string x))(hbk:bk<w.heap.size)(hN:xs.length<=140737488355328)(hcap:xs.length<=c)(hlen:(Lib.join (xs.map (·.data.toList)) sep.data.toList).length<=140737488355328):
 Calls Tryz.prog 19 #[.slice (some ⟨bk,o,none⟩) xs.length c,.string sep] w λe w'=>e= .returned (.string ⟨(Lib.join (xs.map (·.data.toList)) sep.data.toList).toArray⟩)/\Below w.heap.size w w':=Any.strings_Join Tryz.lays156 Tryz.Builder_Extra_156 bk o c xs sep w hcells hbk hN hcap hlen
def Tryz.lays137_ren:Go.Shelf.Ren:=⟨fun|137=>345|217=>340|266=>366|n=>n,fun|9=>9|5=>5|3=>3|n=>n,fun|n=>n⟩
def Tryz.lays137:Go.Proofs.Lays.n137 Tryz.prog Tryz.lays137_ren:=Tryz.lk
open Go.RowKit in
def Tryz.strings_IndexByte(s:ByteArray)(c:Int)(w:World):
 Calls Tryz.prog 345 #[.string s,.int .u8 c] w λe w'=>e= .returned (.int .i64 (Lib.indexByte s.data.toList c.toNat.toUInt8))/\w'=w:=Any.strings_IndexByte Tryz.lays137 s c w
def Tryz.laysM171_ren:Go.Shelf.Ren:=⟨fun|171=>21|243=>52|246=>142|283=>254|284=>255|285=>256|286=>257|129=>332|317=>331|318=>333|319=>334|320=>335|337=>363|338=>364|n=>n,fun|3=>3|9=>9|2=>2|4=>4|171=>257|0=>0|53=>258|37=>51|5=>5|173=>261|212=>287|51=>288|20=>20|213=>289|46=>290|232=>338|233=>339|n=>n,fun|17=>1|18=>8|19=>9|n=>n⟩
def Tryz.laysM171:Go.Proofs.LaysM.n171 Tryz.prog Tryz.laysM171_ren:=Tryz.lk
open Go.RowKit Go.Sort Go.Lib in
def Tryz.strconv_Itoa(n:Int)(h0: -9223372036854775808≤n)(h1:n≤9223372036854775807)(w:World)(htab:Lib.TabIs Tryz.prog w "internal/strconv.uint64pow10" .u64 Lib.pow10Tab):
 Calls Tryz.prog 21 #[.int .i64 n] w λe w'=>e= .returned (.string ⟨(Lib.itoa n).toArray⟩)/\∃k os,w'=grow (w.drewN k) os:=Any.strconv_Itoa Tryz.laysM171 n h0 h1 w htab
def Tryz.laysM173_ren:Go.Shelf.Ren:=⟨fun|173=>129|246=>142|283=>254|284=>255|285=>256|286=>257|129=>332|317=>331|318=>333|319=>334|320=>335|337=>363|338=>364|n=>n,fun|2=>2|3=>3|9=>9|4=>4|171=>257|0=>0|53=>258|37=>51|5=>5|173=>261|212=>287|51=>288|20=>20|213=>289|46=>290|232=>338|233=>339|n=>n,fun|17=>1|18=>8|19=>9|n=>n⟩
def Tryz.laysM173:Go.Proofs.LaysM.n173 Tryz.prog Tryz.laysM173_ren:=Tryz.lk
open Go.RowKit Go.Sort Go.Lib in
def Tryz.strconv_FormatInt_10(n:Int)(h0: -9223372036854775808≤n)(h1:n≤9223372036854775807)(w:World)(htab:Lib.TabIs Tryz.prog w "internal/strconv.uint64pow10" .u64 Lib.pow10Tab):
 Calls Tryz.prog 129 #[.int .i64 n,.int .i64 10] w λe w'=>e= .returned (.string ⟨(Lib.itoa n).toArray⟩)/\∃k os,w'=grow (w.drewN k) os:=Any.strconv_FormatInt_10 Tryz.laysM173 n h0 h1 w htab
def Tryz.laysC172_ren:Go.Shelf.Ren:=⟨fun|172=>216|244=>328|245=>329|247=>330|279=>358|280=>359|281=>360|282=>361|287=>362|316=>390|171=>21|205=>391|321=>392|322=>393|243=>52|246=>142|283=>254|284=>255|285=>256|286=>257|129=>332|317=>331|318=>333|319=>334|320=>335|337=>363|338=>364|n=>n,fun|9=>9|3=>3|75=>55|76=>56|4=>4|5=>5|167=>301|37=>51|0=>0|85=>249|2=>2|168=>302|53=>258|175=>305|46=>290|210=>335|127=>108|145=>361|143=>359|21=>21|171=>257|173=>261|212=>287|51=>288|20=>20|213=>289|232=>338|233=>339|80=>64|n=>n,fun|15=>6|16=>7|17=>1|18=>8|19=>9|n=>n⟩
def Tryz.laysC172:Go.Proofs.LaysC.n172 Tryz.prog Tryz.laysC172_ren:=Tryz.lk
open Go.RowKit in
def Tryz.strconv_Atoi_ok(s:ByteArray)(hmax:s.size<=9223372036854775806)(v:Int)(h:Lib.atoiAll s.data.toList= .ok v)(w:World):
 Calls Tryz.prog 216 #[.string s] w λe w'=>e= .returned (.tuple #[.int .i64 v,.nilIface])/\(w'=w\/∃t,w'=Lib.bytesWorld w 5 t):=Any.strconv_Atoi_ok Tryz.laysC172 s hmax v h w
open Go.RowKit in
def Tryz.strconv_Atoi_syntax(s:ByteArray)(hlim:s.size<=281474976710656)(h:Lib.atoiAll s.data.toList=Lib.atoiAll [])(ev:Value)(w:World)(hv:w.cell? ⟨6,0,none⟩=some ev)(hev:ev= .nilIface\/∃te pe,ev= .iface te pe):
 Calls Tryz.prog 216 #[.string s] w λe w'=>∃N,e= .returned (.tuple #[.int .i64 (0),.iface 302 (.pointer (some ⟨N,0,none⟩))])/\w.heap.size<=N/\w'.heap[N]?=some (.cells #[.string ⟨#[65,116,111,105]⟩,.string s,ev] 335 (0,0))/\Below w.heap.size w w':=Any.strconv_Atoi_syntax Tryz.laysC172 s hlim h ev w hv hev
open Go.RowKit in
def Tryz.strconv_Atoi_range(s:ByteArray)(hlim:s.size<=281474976710656)(h:Lib.atoiAll s.data.toList= .range)(ev:Value)(w:World)(hv:w.cell? ⟨7,0,none⟩=some ev)(hev:ev= .nilIface\/∃te pe,ev= .iface te pe):
 Calls Tryz.prog 216 #[.string s] w λe w'=>∃N,e= .returned (.tuple #[.int .i64 (Lib.atoiSat s.data.toList),.iface 302 (.pointer (some ⟨N,0,none⟩))])/\w.heap.size<=N/\w'.heap[N]?=some (.cells #[.string ⟨#[65,116,111,105]⟩,.string s,ev] 335 (0,0))/\Below w.heap.size w w':=Any.strconv_Atoi_range Tryz.laysC172 s hlim h ev w hv hev
def Tryz.laysC174_ren:Go.Shelf.Ren:=⟨fun|174=>227|247=>330|245=>329|287=>362|279=>358|280=>359|281=>360|282=>361|321=>392|322=>393|316=>390|171=>21|205=>391|243=>52|246=>142|283=>254|284=>255|285=>256|286=>257|129=>332|317=>331|318=>333|319=>334|320=>335|337=>363|338=>364|n=>n,fun|9=>9|3=>3|2=>2|75=>55|85=>249|4=>4|167=>301|5=>5|53=>258|175=>305|46=>290|168=>302|37=>51|0=>0|210=>335|21=>21|127=>108|145=>361|143=>359|171=>257|173=>261|212=>287|51=>288|20=>20|213=>289|232=>338|233=>339|80=>64|n=>n,fun|15=>6|16=>7|17=>1|18=>8|19=>9|n=>n⟩
def Tryz.laysC174:Go.Proofs.LaysC.n174 Tryz.prog Tryz.laysC174_ren:=Tryz.lk
open Go.RowKit in
def Tryz.strconv_ParseInt_10_at64_ok(s:ByteArray)(hmax:s.size<=9223372036854775806)(v:Int)(h:Lib.parseIntB 64 s.data.toList= .ok v)(w:World):
 Calls Tryz.prog 227 #[.string s,.int .i64 10,.int .i64 64] w λe w'=>e= .returned (.tuple #[.int .i64 v,.nilIface])/\(w'=w\/∃t,w'=Lib.bytesWorld w 5 t):=Any.strconv_ParseInt_10_at64_ok Tryz.laysC174 s hmax v h w
open Go.RowKit in
def Tryz.strconv_ParseInt_10_at64_syntax(s:ByteArray)(hlim:s.size<=281474976710656)(h:Lib.parseIntB 64 s.data.toList=Lib.parseIntB 64 [])(ev:Value)(w:World)(hv:w.cell? ⟨6,0,none⟩=some ev)(hev:ev= .nilIface\/∃te pe,ev= .iface te pe):
 Calls Tryz.prog 227 #[.string s,.int .i64 10,.int .i64 64] w λe w'=>∃N,e= .returned (.tuple #[.int .i64 (0),.iface 302 (.pointer (some ⟨N,0,none⟩))])/\w.heap.size<=N/\w'.heap[N]?=some (.cells #[.string ⟨#[80,97,114,115,101,73,110,116]⟩,.string s,ev] 335 (0,0))/\Below w.heap.size w w':=Any.strconv_ParseInt_10_at64_syntax Tryz.laysC174 s hlim h ev w hv hev
open Go.RowKit in
def Tryz.strconv_ParseInt_10_at64_range(s:ByteArray)(hlim:s.size<=281474976710656)(h:Lib.parseIntB 64 s.data.toList= .range)(ev:Value)(w:World)(hv:w.cell? ⟨7,0,none⟩=some ev)(hev:ev= .nilIface\/∃te pe,ev= .iface te pe):
 Calls Tryz.prog 227 #[.string s,.int .i64 10,.int .i64 64] w λe w'=>∃N,e= .returned (.tuple #[.int .i64 (Lib.intSat 64 s.data.toList),.iface 302 (.pointer (some ⟨N,0,none⟩))])/\w.heap.size<=N/\w'.heap[N]?=some (.cells #[.string ⟨#[80,97,114,115,101,73,110,116]⟩,.string s,ev] 335 (0,0))/\Below w.heap.size w w':=Any.strconv_ParseInt_10_at64_range Tryz.laysC174 s hlim h ev w hv hev
def Tryz.lays145_ren:Go.Shelf.Ren:=⟨fun|145=>93|220=>214|219=>305|217=>340|225=>341|224=>342|267=>343|266=>366|314=>367|n=>n,fun|9=>9|4=>4|59=>154|3=>3|5=>5|46=>290|146=>316|51=>288|n=>n,fun|1=>0|n=>n⟩
def Tryz.lays145:Go.Proofs.Lays.n145 Tryz.prog Tryz.lays145_ren:=Tryz.lk
open Go.RowKit Go.Lib in
def Tryz.strings_Cut(s sep:ByteArray)(m:Int)(w:World)(hs:s.size<4294967281)(hm:w.cell? ⟨0,0,none⟩=some (.int .i64 m)):
 Calls Tryz.prog 93 #[.string s,.string sep] w λe w'=>e= .returned (.tuple #[.string ⟨(Lib.cut s.data.toList sep.data.toList).1.toArray⟩,.string ⟨(Lib.cut s.data.toList sep.data.toList).2.1.toArray⟩,.bool (Lib.cut s.data.toList sep.data.toList).2.2])/\∃n,w'=w.drewN n:=Any.strings_Cut Tryz.lays145 s sep m w hs hm
open Go.RowKit Go.Lib in
def Tryz.lays189_ren:Go.Shelf.Ren:=⟨fun|189=>326|125=>355|257=>357|128=>380|129=>332|294=>381|295=>382|296=>383|297=>384|298=>385|299=>386|216=>387|300=>388|301=>389|328=>403|329=>398|330=>399|331=>404|332=>405|215=>406|343=>408|n=>n,fun|28=>30|3=>3|46=>290|0=>0|51=>288|53=>258|4=>4|183=>323|182=>322|131=>247|5=>5|9=>9|218=>352|222=>158|228=>364|229=>73|n=>n,fun|n=>n⟩
def Tryz.lays189:Go.Proofs.Lays.n189 Tryz.prog Tryz.lays189_ren:=Tryz.lk
open Go.Sort Go.RowKit in
def Tryz.slices_Sort_int(blk off cap:Nat)(zs:List Int)(w:World)(hH:Holds (Value.int .i64) w blk off zs.toArray)(hblk:blk<w.heap.size)(hsz:zs.length<4611686018427387904):
 Calls Tryz.prog 326 #[.slice (some ⟨blk,off,none⟩) zs.length cap] w λe w'=>
  e= .returned (.tuple #[])/\∃n os,w'=grow (putRow (Value.int .i64) (Sort.ahead w n) blk off (zs.mergeSort λx y=>decide (x<=y)).toArray) os:=Any.slices_Sort_int Tryz.lays189 blk off cap zs w hH hblk hsz
def Tryz.lays190_ren:Go.Shelf.Ren:=⟨fun|190=>323|125=>355|258=>354|128=>380|129=>332|302=>371|303=>372|304=>373|305=>374|306=>375|307=>376|308=>377|309=>378|310=>379|333=>397|329=>398|330=>399|334=>400|335=>401|336=>402|344=>407|n=>n,fun|31=>22|9=>9|3=>3|46=>290|0=>0|51=>288|53=>258|4=>4|183=>323|182=>322|131=>247|5=>5|218=>352|222=>158|228=>364|229=>73|n=>n,fun|n=>n⟩
def Tryz.lays190:Go.Proofs.Lays.n190 Tryz.prog Tryz.lays190_ren:=Tryz.lk
open Go.Sort Go.RowKit in
def Tryz.slices_Sort_string(blk off cap:Nat)(ss:List (List UInt8))(w:World)(hH:Holds encStr w blk off ss.toArray)(hblk:blk<w.heap.size)(hsz:ss.length<4611686018427387904):
 Calls Tryz.prog 323 #[.slice (some ⟨blk,off,none⟩) ss.length cap] w λe w'=>
  e= .returned (.tuple #[])/\∃n os,w'=grow (putRow encStr (Sort.ahead w n) blk off (ss.mergeSort λx y=>decide (x<=y)).toArray) os:=Any.slices_Sort_string Tryz.lays190 blk off cap ss w hH hblk hsz
open Go.RowKit Go.Lib in
def Tryz.laysGw17_ren:Go.Shelf.Ren:=⟨fun|17=>158|15=>271|20=>336|n=>n,fun|9=>9|23=>194|4=>4|3=>3|0=>0|21=>21|n=>n,fun|n=>n⟩
def Tryz.laysGw17:Go.Proofs.LaysGw.n17 Tryz.prog Tryz.laysGw17_ren:=Tryz.lk
open Go.RowKit Go.Lib in
def Tryz.strings_ContainsFunc(g:Nat)(lb:Array Value)(eg:∀args w,(callFunc g args).run Tryz.prog w= .ok (.enter g args) w)(p:Nat->Bool)(s:ByteArray)(w:World)(hp:PredAt Tryz.prog g lb encR p w):
 Calls Tryz.prog 158 #[.string s,.func (.func g) #[] lb] w λe w'=>e= .returned (.bool (decide (0<=Lib.idxFunc p true s)))/\Below w.heap.size w w':=Any.strings_ContainsFunc Tryz.laysGw17 g lb eg p s w hp
def Tryz.lays99_ren:Go.Shelf.Ren:=⟨fun|99=>37|206=>80|n=>n,fun|9=>9|4=>4|3=>3|n=>n,fun|n=>n⟩
def Tryz.lays99:Go.Proofs.Lays.n99 Tryz.prog Tryz.lays99_ren:=Tryz.lk
open Go.RowKit Go.Lib in
def Tryz.strings_HasPrefix(s p:ByteArray)(w:World):
 Calls Tryz.prog 37 #[.string s,.string p] w λe w'=>e= .returned (.bool (Lib.hasPrefix s.data.toList p.data.toList))/\w'=w:=Any.strings_HasPrefix Tryz.lays99 s p w
def Tryz.lays101_ren:Go.Shelf.Ren:=⟨fun|101=>94|208=>215|206=>80|n=>n,fun|9=>9|4=>4|3=>3|n=>n,fun|n=>n⟩
def Tryz.lays101:Go.Proofs.Lays.n101 Tryz.prog Tryz.lays101_ren:=Tryz.lk
open Go.RowKit Go.Lib in
def Tryz.strings_TrimPrefix(s p:ByteArray)(w:World):
 Calls Tryz.prog 94 #[.string s,.string p] w λe w'=>e= .returned (.string ⟨(Lib.trimPrefix s.data.toList p.data.toList).toArray⟩)/\w'=w:=Any.strings_TrimPrefix Tryz.lays101 s p w
def Tryz.lays146_ren:Go.Shelf.Ren:=⟨fun|146=>34|221=>79|268=>183|138=>86|143=>184|195=>193|197=>304|218=>194|219=>305|260=>339|217=>340|225=>341|224=>342|267=>343|266=>366|314=>367|n=>n,fun|9=>9|31=>22|3=>3|4=>4|0=>0|105=>274|21=>21|5=>5|46=>290|119=>293|139=>315|138=>314|146=>316|51=>288|n=>n,fun|1=>0|3=>4|4=>5|n=>n⟩
def Tryz.lays146:Go.Proofs.Lays.n146 Tryz.prog Tryz.lays146_ren:=Tryz.lk
open Go.RowKit Go.Lib in
def Tryz.strings_Split(s sep:ByteArray)(m:Int)(w:World)(hs:s.size<4294967281)(hm:w.cell? ⟨0,0,none⟩=some (.int .i64 m))(h1:1<=sep.size):
 Calls Tryz.prog 34 #[.string s,.string sep] w λe w'=>
  e= .returned (.slice (some ⟨w.heap.size,0,none⟩) (Lib.countB s sep+1) (Lib.countB s sep+1))/\w'=w.alloc (.cells ((Lib.splitB sep 0 (Lib.countB s sep) s).map Value.string).toArray 9):=Any.strings_Split Tryz.lays146 (by kernel_rfl) s sep m w hs hm h1
def Tryz.lays157_ren:Go.Shelf.Ren:=⟨fun|157=>273|229=>337|199=>338|261=>365|311=>394|312=>395|n=>n,fun|9=>9|31=>22|3=>3|5=>5|4=>4|119=>293|0=>0|40=>194|152=>308|21=>21|154=>310|51=>288|141=>312|196=>343|193=>340|198=>346|49=>344|194=>341|201=>349|226=>362|46=>290|227=>363|n=>n,fun|0=>2|6=>3|n=>n⟩
def Tryz.lays157:Go.Proofs.Lays.n157 Tryz.prog Tryz.lays157_ren:=Tryz.lk
open Go.RowKit Go.Lib in
def Tryz.strings_Fields(s:ByteArray)(w:World)(hs:s.size<4294967281)(hascii:∀(j:Nat)b,s.data.toList[j]?=some b→b.toNat<128)(htab:Lib.TabIs Tryz.prog w "strings.asciiSpace" .u8 Lib.asciiSpaceTab):
 Calls Tryz.prog 273 #[.string s] w λe w'=>
  e= .returned (.slice (some ⟨w.heap.size,0,none⟩) (Lib.fields s.data.toList).length (Lib.fields s.data.toList).length)/\w'=w.alloc (.cells ((Lib.fields s.data.toList).map λl=>Value.string ⟨l.toArray⟩).toArray 9):=Any.strings_Fields Tryz.lays157 (by kernel_rfl) (by kernel_rfl) s w hs hascii htab
def Tryz.lays107_ren:Go.Shelf.Ren:=⟨fun|107=>63|108=>169|n=>n,fun|28=>30|3=>3|4=>4|0=>0|n=>n,fun|n=>n⟩
def Tryz.lays107:Go.Proofs.Lays.n107 Tryz.prog Tryz.lays107_ren:=Tryz.lk
open Go.Lib in
def Tryz.slices_Contains_int(b off n c:Nat)(zs:List Int)(x:Int)(w:World)(hz:n<=zs.length)(hbig:n<=9223372036854775807)(hc:∀j,j<zs.length->w.cell? ⟨b,off+j,none⟩=some (.int .i64 (zs.getD j 0))):
 Calls Tryz.prog 63 #[.slice (some ⟨b,off,none⟩) n c,.int .i64 x] w λe w'=>e= .returned (.bool ((zs.take n).contains x))/\w'=w:=Any.slices_Contains_int Tryz.lays107 b off n c zs x w hz hbig hc
open Go.Lib in
def Tryz.slices_Contains_int_empty(a:Option Addr)(c:Nat)(x:Int)(w:World):
 Calls Tryz.prog 63 #[.slice a 0 c,.int .i64 x] w λe w'=>e= .returned (.bool false)/\w'=w:=Any.slices_Contains_int_empty Tryz.lays107 a c x w
def Tryz.lays110_ren:Go.Shelf.Ren:=⟨fun|110=>159|109=>272|n=>n,fun|31=>22|9=>9|4=>4|3=>3|0=>0|n=>n,fun|n=>n⟩
def Tryz.lays110:Go.Proofs.Lays.n110 Tryz.prog Tryz.lays110_ren:=Tryz.lk
open Go.Lib in
def Tryz.slices_Contains_string(b off n c:Nat)(zs:List ByteArray)(x:ByteArray)(w:World)(hz:n<=zs.length)(hbig:n<=9223372036854775807)(hc:∀j,j<zs.length->w.cell? ⟨b,off+j,none⟩=some (.string (zs.getD j ByteArray.empty))):
 Calls Tryz.prog 159 #[.slice (some ⟨b,off,none⟩) n c,.string x] w λe w'=>e= .returned (.bool (Lib.containsS (zs.take n) x))/\w'=w:=Any.slices_Contains_string Tryz.lays110 b off n c zs x w hz hbig hc
open Go.Lib in
def Tryz.slices_Contains_string_empty(a:Option Addr)(c:Nat)(x:ByteArray)(w:World):
 Calls Tryz.prog 159 #[.slice a 0 c,.string x] w λe w'=>e= .returned (.bool false)/\w'=w:=Any.slices_Contains_string_empty Tryz.lays110 a c x w
def Tryz.lays111_ren:Go.Shelf.Ren:=⟨fun|111=>170|n=>n,fun|28=>30|3=>3|4=>4|0=>0|n=>n,fun|n=>n⟩
def Tryz.lays111:Go.Proofs.Lays.n111 Tryz.prog Tryz.lays111_ren:=Tryz.lk
open Go.RowKit Go.Lib in
def Tryz.slices_Equal_int(b1 o1 n c b2 o2 m d:Nat)(xs ys:List Int)(w:World)(hx:n<=xs.length)(hy:m<=ys.length)(hbig:n<=9223372036854775807)(hbig2:m<=9223372036854775807)(hc1:∀j,j<xs.length->w.cell? ⟨b1,o1+j,none⟩=some (.int .i64 (xs.getD j 0)))(hc2:∀j,j<ys.length->w.cell? ⟨b2,o2+j,none⟩=some (.int .i64 (ys.getD j 0))):
 Calls Tryz.prog 170 #[.slice (some ⟨b1,o1,none⟩) n c,.slice (some ⟨b2,o2,none⟩) m d] w λe w'=>e= .returned (.bool (xs.take n==ys.take m))/\∃q,w'=w.drewN q:=Any.slices_Equal_int Tryz.lays111 b1 o1 n c b2 o2 m d xs ys w hx hy hbig hbig2 hc1 hc2
open Go.RowKit Go.Lib in
def Tryz.slices_Equal_int_empty(a1 a2:Option Addr)(c m d:Nat)(w:World)(hbig2:m<=9223372036854775807):
 Calls Tryz.prog 170 #[.slice a1 0 c,.slice a2 m d] w λe w'=>e= .returned (.bool (decide (m=0)))/\w'=w:=Any.slices_Equal_int_empty Tryz.lays111 a1 a2 c m d w hbig2
def Tryz.lays194_ren:Go.Shelf.Ren:=⟨fun|194=>211|n=>n,fun|31=>22|9=>9|3=>3|4=>4|0=>0|n=>n,fun|n=>n⟩
def Tryz.lays194:Go.Proofs.Lays.n194 Tryz.prog Tryz.lays194_ren:=Tryz.lk
open Go.RowKit Go.Lib Go.Sort in
def Tryz.slices_Compact_string(blk off cap:Nat)(zs:List (List UInt8))(w:World)(hH:Holds encStr w blk off zs.toArray)(hsz:zs.length<=9223372036854775807)(hcap:zs.length<=cap):
 Calls Tryz.prog 211 #[.slice (some ⟨blk,off,none⟩) zs.length cap] w λe w'=>e= .returned (.slice (some ⟨blk,off,none⟩) (Lib.compact zs).length cap)/\∃q,w'=putRow encStr (Sort.ahead w q) blk off (Lib.compact zs++List.replicate (zs.length - (Lib.compact zs).length) []).toArray:=Any.slices_Compact_string Tryz.lays194 blk off cap zs w hH hsz hcap
open Go.RowKit Go.Lib Go.Sort in
def Tryz.slices_Compact_string_empty(a:Option Addr)(cap:Nat)(w:World):
 Calls Tryz.prog 211 #[.slice a 0 cap] w λe w'=>e= .returned (.slice a 0 cap)/\w'=w:=Any.slices_Compact_string_empty Tryz.lays194 a cap w
open Go.RowKit Go.Lib Go.Sort in
open Go.RowKit Go.Sort in
def Tryz.slices_Sort_string_none(p:Option Addr)(cap:Nat)(w:World):
 Calls Tryz.prog 323 #[.slice p 0 cap] w λe w'=>e= .returned (.tuple #[])/\w'=w:=Any.slices_Sort_string_none Tryz.lays190 p cap w
open Go.RowKit Go.Sort in
def Tryz.slices_Sort_int_none(p:Option Addr)(cap:Nat)(w:World):
 Calls Tryz.prog 326 #[.slice p 0 cap] w λe w'=>e= .returned (.tuple #[])/\w'=w:=Any.slices_Sort_int_none Tryz.lays189 p cap w
open Go.RowKit Go.Lib in
def Tryz.slices_Equal_int_lens(a1 a2:Option Addr)(n c m d:Nat)(w:World)(hnm:n≠m):
 Calls Tryz.prog 170 #[.slice a1 n c,.slice a2 m d] w λe w'=>e= .returned (.bool false)/\w'=w:=Any.slices_Equal_int_lens Tryz.lays111 a1 a2 n c m d w hnm
end Go.Proofs
