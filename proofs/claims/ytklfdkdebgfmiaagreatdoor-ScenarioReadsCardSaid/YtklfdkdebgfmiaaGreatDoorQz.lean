/- A part of the proof. Here: contracts of library functions. -/
import Derived.Shelf.Strings.OnBuilder
import Derived.Shelf.Small.Strs
import Derived.Shelf.Small.Wraps
import Derived.Shelf.Strconv.Itoa4
import Derived.Shelf.Strconv.ErrVar
import Derived.Shelf.Strconv.ErrVarAll
import Derived.Shelf.Strconv.ErrVarParseInt
import Derived.Shelf.Strings.Shaped
import Derived.Shelf.Sort.Plain
import Derived.Shelf.Strings.LastIndex
import Derived.Shelf.GgClosure.StringsRunes
import Derived.Shelf.Strings.SplitShaped
import Derived.Shelf.Strings.Explode
import Derived.Shelf.Unicode.IsSpaceAnyD
import Derived.Shelf.Unicode.ExclAny
import Derived.Shelf.Strings.BuilderCap
import Derived.Shelf.Slices.Turned
import Derived.Shelf.Slices.Clone
import Derived.Shelf.Slices.SearchI
import Derived.Shelf.Slices.Cells
import Derived.Shelf.Slices.In.SortNone
import Derived.Shelf.Slices.Empties2
import Derived.Shelf.SlicesE.Clone
import Derived.Shelf.SlicesE.DeleteFunc
import Derived.Test.YtklfdkdebgfmiaaGreatDoorProg
set_option linter.defProp false
set_option linter.unusedVariables false
set_option linter.unusedSimpArgs false
namespace Go.Proofs
open Go.Shelf
def Tryz.lk {p:Prop} (h:p:=by constructor<;>first|(intros;kernel_rfl)|(constructor<;>first|(intros;kernel_rfl)|(constructor<;>intros<;>kernel_rfl))):p:=h
def Tryz.lays156_ren:Go.Shelf.Ren:=⟨fun|156=>27|165=>65|166=>24|169=>30|240=>60|241=>161|276=>159|277=>260|n=>n,fun|31=>23|9=>9|3=>3|4=>4|0=>0|20=>20|72=>68|76=>71|70=>65|37=>66|75=>70|127=>145|164=>208|5=>5|80=>78|n=>n,fun|n=>n⟩
def Tryz.lays156:Go.Proofs.Lays.n156 Tryz.prog Tryz.lays156_ren:=Tryz.lk
def Tryz.Builder_Extra_156:Builder.Extra Tryz.prog Tryz.lays156_ren:={
 sizeBuilder:=by kernel_rfl
 liesBuilder:=by kernel_rfl
 t5:=Tryz.underlying5
 a5:=Tryz.isAgg5
 z5:=Tryz.sizeOf5
 v5:=Tryz.zeroValue5
 infoByte:=by kernel_rfl
 cellsByte:=by kernel_rfl
 sizeByte:=by kernel_rfl
 neB5:=by decide}
open Go.RowKit in
def Tryz.strings_Join_none (a:Option Addr) (c:Nat) (sep:ByteArray) (w:World):
 Calls Tryz.prog 27 #[.slice a 0 c,.string sep] w λe w'=>e= .returned (.string ⟨#[]⟩)/\w'=w:=Any.strings_Join_none Tryz.lays156 Tryz.Builder_Extra_156 a c sep w
open Go.RowKit in
def Tryz.strings_Join (bk o c:Nat) (xs:List ByteArray) (sep:ByteArray) (w:World) (hcells: ∀(j:Nat) x,xs[j]? =some x->w.cell? ⟨bk,o+j,none⟩=some (.string x)) (hbk:bk<w.heap.size) (hN:xs.length<=140737488355328) (hcap:xs.length<=c) (hlen:(Lib.join (xs.map (·.data.toList)) sep.data.toList).length<=140737488355328):
 Calls Tryz.prog 27 #[.slice (some ⟨bk,o,none⟩) xs.length c,.string sep] w λe w'=>e= .returned (.string ⟨(Lib.join (xs.map (·.data.toList)) sep.data.toList).toArray⟩)/\Below w.heap.size w w':=Any.strings_Join Tryz.lays156 Tryz.Builder_Extra_156 bk o c xs sep w hcells hbk hN hcap hlen
def Tryz.lays137_ren:Go.Shelf.Ren:=⟨fun|137=>280|217=>275|266=>337|n=>n,fun|9=>9|5=>5|3=>3|n=>n,fun|n=>n⟩
def Tryz.lays137:Go.Proofs.Lays.n137 Tryz.prog Tryz.lays137_ren:=Tryz.lk
open Go.RowKit in
def Tryz.strings_IndexByte (s:ByteArray) (c:Int) (w:World):
 Calls Tryz.prog 280 #[.string s,.int .u8 c] w λe w'=>e= .returned (.int .i64 (Lib.indexByte s.data.toList c.toNat.toUInt8))/\w'=w:=Any.strings_IndexByte Tryz.lays137 s c w
def Tryz.laysM171_ren:Go.Shelf.Ren:=⟨fun|171=>29|243=>66|246=>162|283=>261|284=>262|285=>263|286=>264|129=>328|317=>327|318=>329|319=>330|320=>331|337=>365|338=>366|n=>n,fun|3=>3|9=>9|2=>2|4=>4|171=>267|0=>0|53=>268|37=>66|5=>5|173=>271|212=>294|51=>295|20=>20|213=>296|46=>274|232=>344|233=>345|n=>n,fun|17=>1|18=>8|19=>9|n=>n⟩
def Tryz.laysM171:Go.Proofs.LaysM.n171 Tryz.prog Tryz.laysM171_ren:=Tryz.lk
open Go.RowKit Go.Sort Go.Lib in
def Tryz.strconv_Itoa (n:Int) (h0: -9223372036854775808≤n) (h1:n≤9223372036854775807) (w:World) (htab:Lib.TabIs Tryz.prog w "internal/strconv.uint64pow10" .u64 Lib.pow10Tab):
 Calls Tryz.prog 29 #[.int .i64 n] w λe w'=>e= .returned (.string ⟨(Lib.itoa n).toArray⟩)/\∃k os,w'=grow (w.drewN k) os:=Any.strconv_Itoa Tryz.laysM171 n h0 h1 w htab
def Tryz.laysM173_ren:Go.Shelf.Ren:=⟨fun|173=>102|246=>162|283=>261|284=>262|285=>263|286=>264|129=>328|317=>327|318=>329|319=>330|320=>331|337=>365|338=>366|n=>n,fun|2=>2|3=>3|9=>9|4=>4|171=>267|0=>0|53=>268|37=>66|5=>5|173=>271|212=>294|51=>295|20=>20|213=>296|46=>274|232=>344|233=>345|n=>n,fun|17=>1|18=>8|19=>9|n=>n⟩
def Tryz.laysM173:Go.Proofs.LaysM.n173 Tryz.prog Tryz.laysM173_ren:=Tryz.lk
open Go.RowKit Go.Sort Go.Lib in
def Tryz.strconv_FormatInt_10 (n:Int) (h0: -9223372036854775808≤n) (h1:n≤9223372036854775807) (w:World) (htab:Lib.TabIs Tryz.prog w "internal/strconv.uint64pow10" .u64 Lib.pow10Tab):
 Calls Tryz.prog 102 #[.int .i64 n,.int .i64 10] w λe w'=>e= .returned (.string ⟨(Lib.itoa n).toArray⟩)/\∃k os,w'=grow (w.drewN k) os:=Any.strconv_FormatInt_10 Tryz.laysM173 n h0 h1 w htab
def Tryz.laysC172_ren:Go.Shelf.Ren:=⟨fun|172=>156|244=>235|245=>236|247=>273|279=>323|280=>324|281=>325|282=>326|287=>336|316=>363|171=>29|205=>364|321=>367|322=>368|243=>66|246=>162|283=>261|284=>262|285=>263|286=>264|129=>328|317=>327|318=>329|319=>330|320=>331|337=>365|338=>366|n=>n,fun|9=>9|3=>3|75=>70|76=>71|4=>4|5=>5|167=>288|37=>66|0=>0|85=>222|2=>2|168=>289|53=>268|175=>298|46=>274|210=>325|127=>145|145=>343|143=>341|21=>21|171=>267|173=>271|212=>294|51=>295|20=>20|213=>296|232=>344|233=>345|80=>78|n=>n,fun|15=>5|16=>6|17=>1|18=>8|19=>9|n=>n⟩
def Tryz.laysC172:Go.Proofs.LaysC.n172 Tryz.prog Tryz.laysC172_ren:=Tryz.lk
open Go.RowKit in
def Tryz.strconv_Atoi_ok (s:ByteArray) (hmax:s.size<=9223372036854775806) (v:Int) (h:Lib.atoiAll s.data.toList= .ok v) (w:World):
 Calls Tryz.prog 156 #[.string s] w λe w'=>e= .returned (.tuple #[.int .i64 v,.nilIface])/\(w'=w\/∃t,w'=Lib.bytesWorld w 5 t):=Any.strconv_Atoi_ok Tryz.laysC172 s hmax v h w
open Go.RowKit in
def Tryz.strconv_Atoi_syntax (s:ByteArray) (hlim:s.size<=281474976710656) (h:Lib.atoiAll s.data.toList=Lib.atoiAll []) (ev:Value) (w:World) (hv:w.cell? ⟨5,0,none⟩=some ev) (hev:ev= .nilIface\/∃te pe,ev= .iface te pe):
 Calls Tryz.prog 156 #[.string s] w λe w'=> ∃N,e= .returned (.tuple #[.int .i64 (0),.iface 289 (.pointer (some ⟨N,0,none⟩))])/\w.heap.size<=N/\w'.heap[N]? =some (.cells #[.string ⟨#[65,116,111,105]⟩,.string s,ev] 325 (0,0))/\Below w.heap.size w w':=Any.strconv_Atoi_syntax Tryz.laysC172 s hlim h ev w hv hev
open Go.RowKit in
def Tryz.strconv_Atoi_range (s:ByteArray) (hlim:s.size<=281474976710656) (h:Lib.atoiAll s.data.toList= .range) (ev:Value) (w:World) (hv:w.cell? ⟨6,0,none⟩=some ev) (hev:ev= .nilIface\/∃te pe,ev= .iface te pe):
 Calls Tryz.prog 156 #[.string s] w λe w'=> ∃N,e= .returned (.tuple #[.int .i64 (Lib.atoiSat s.data.toList),.iface 289 (.pointer (some ⟨N,0,none⟩))])/\w.heap.size<=N/\w'.heap[N]? =some (.cells #[.string ⟨#[65,116,111,105]⟩,.string s,ev] 325 (0,0))/\Below w.heap.size w w':=Any.strconv_Atoi_range Tryz.laysC172 s hlim h ev w hv hev
def Tryz.laysC174_ren:Go.Shelf.Ren:=⟨fun|174=>181|247=>273|245=>236|287=>336|279=>323|280=>324|281=>325|282=>326|321=>367|322=>368|316=>363|171=>29|205=>364|243=>66|246=>162|283=>261|284=>262|285=>263|286=>264|129=>328|317=>327|318=>329|319=>330|320=>331|337=>365|338=>366|n=>n,fun|9=>9|3=>3|2=>2|75=>70|85=>222|4=>4|167=>288|5=>5|53=>268|175=>298|46=>274|168=>289|37=>66|0=>0|210=>325|21=>21|127=>145|145=>343|143=>341|171=>267|173=>271|212=>294|51=>295|20=>20|213=>296|232=>344|233=>345|80=>78|n=>n,fun|15=>5|16=>6|17=>1|18=>8|19=>9|n=>n⟩
def Tryz.laysC174:Go.Proofs.LaysC.n174 Tryz.prog Tryz.laysC174_ren:=Tryz.lk
open Go.RowKit in
def Tryz.strconv_ParseInt_10_at64_ok (s:ByteArray) (hmax:s.size<=9223372036854775806) (v:Int) (h:Lib.parseIntB 64 s.data.toList= .ok v) (w:World):
 Calls Tryz.prog 181 #[.string s,.int .i64 10,.int .i64 64] w λe w'=>e= .returned (.tuple #[.int .i64 v,.nilIface])/\(w'=w\/∃t,w'=Lib.bytesWorld w 5 t):=Any.strconv_ParseInt_10_at64_ok Tryz.laysC174 s hmax v h w
open Go.RowKit in
def Tryz.strconv_ParseInt_10_at64_syntax (s:ByteArray) (hlim:s.size<=281474976710656) (h:Lib.parseIntB 64 s.data.toList=Lib.parseIntB 64 []) (ev:Value) (w:World) (hv:w.cell? ⟨5,0,none⟩=some ev) (hev:ev= .nilIface\/∃te pe,ev= .iface te pe):
 Calls Tryz.prog 181 #[.string s,.int .i64 10,.int .i64 64] w λe w'=> ∃N,e= .returned (.tuple #[.int .i64 (0),.iface 289 (.pointer (some ⟨N,0,none⟩))])/\w.heap.size<=N/\w'.heap[N]? =some (.cells #[.string ⟨#[80,97,114,115,101,73,110,116]⟩,.string s,ev] 325 (0,0))/\Below w.heap.size w w':=Any.strconv_ParseInt_10_at64_syntax Tryz.laysC174 s hlim h ev w hv hev
open Go.RowKit in
def Tryz.strconv_ParseInt_10_at64_range (s:ByteArray) (hlim:s.size<=281474976710656) (h:Lib.parseIntB 64 s.data.toList= .range) (ev:Value) (w:World) (hv:w.cell? ⟨6,0,none⟩=some ev) (hev:ev= .nilIface\/∃te pe,ev= .iface te pe):
 Calls Tryz.prog 181 #[.string s,.int .i64 10,.int .i64 64] w λe w'=> ∃N,e= .returned (.tuple #[.int .i64 (Lib.intSat 64 s.data.toList),.iface 289 (.pointer (some ⟨N,0,none⟩))])/\w.heap.size<=N/\w'.heap[N]? =some (.cells #[.string ⟨#[80,97,114,115,101,73,110,116]⟩,.string s,ev] 325 (0,0))/\Below w.heap.size w w':=Any.strconv_ParseInt_10_at64_range Tryz.laysC174 s hlim h ev w hv hev
def Tryz.lays145_ren:Go.Shelf.Ren:=⟨fun|145=>51|220=>154|219=>184|217=>275|225=>276|224=>277|267=>278|266=>337|314=>338|n=>n,fun|9=>9|4=>4|59=>122|3=>3|5=>5|46=>274|146=>304|51=>295|n=>n,fun|1=>0|n=>n⟩
def Tryz.lays145:Go.Proofs.Lays.n145 Tryz.prog Tryz.lays145_ren:=Tryz.lk
open Go.RowKit Go.Lib in
def Tryz.strings_Cut (s sep:ByteArray) (m:Int) (w:World) (hs:s.size<4294967281) (hm:w.cell? ⟨0,0,none⟩=some (.int .i64 m)):
 Calls Tryz.prog 51 #[.string s,.string sep] w λe w'=>e= .returned (.tuple #[.string ⟨(Lib.cut s.data.toList sep.data.toList).1.toArray⟩,.string ⟨(Lib.cut s.data.toList sep.data.toList).2.1.toArray⟩,.bool (Lib.cut s.data.toList sep.data.toList).2.2])/\∃n,w'=w.drewN n:=Any.strings_Cut Tryz.lays145 s sep m w hs hm
def Tryz.lays138_ren:Go.Shelf.Ren:=⟨fun|138=>43|195=>122|218=>123|143=>113|219=>184|217=>275|225=>276|224=>277|267=>278|266=>337|314=>338|n=>n,fun|9=>9|3=>3|4=>4|5=>5|0=>0|46=>274|146=>304|51=>295|n=>n,fun|1=>0|n=>n⟩
def Tryz.lays138:Go.Proofs.Lays.n138 Tryz.prog Tryz.lays138_ren:=Tryz.lk
open Go.RowKit Go.Lib in
def Tryz.strings_Count_one (s:ByteArray) (c:UInt8) (w:World):
 Calls Tryz.prog 43 #[.string s,.string ⟨#[c]⟩] w λe w'=>e= .returned (.int .i64 (Lib.countByte s.data.toList c))/\w'=w:=Any.strings_Count_one Tryz.lays138 s c w
def Tryz.lays189_ren:Go.Shelf.Ren:=⟨fun|189=>209|125=>291|257=>293|128=>351|129=>328|294=>352|295=>353|296=>354|297=>355|298=>356|299=>357|216=>358|300=>359|301=>360|328=>376|329=>371|330=>372|331=>377|332=>378|215=>379|343=>382|n=>n,fun|28=>31|3=>3|46=>274|0=>0|51=>295|53=>268|4=>4|183=>311|182=>310|131=>220|5=>5|9=>9|218=>329|222=>126|228=>346|229=>57|n=>n,fun|n=>n⟩
def Tryz.lays189:Go.Proofs.Lays.n189 Tryz.prog Tryz.lays189_ren:=Tryz.lk
open Go.Sort Go.RowKit in
def Tryz.slices_Sort_int (blk off cap:Nat) (zs:List Int) (w:World) (hH:Holds (Value.int .i64) w blk off zs.toArray) (hblk:blk<w.heap.size) (hsz:zs.length<4611686018427387904):
 Calls Tryz.prog 209 #[.slice (some ⟨blk,off,none⟩) zs.length cap] w λe w'=>
  e= .returned (.tuple #[])/\∃n os,w'=grow (putRow (Value.int .i64) (Sort.ahead w n) blk off (zs.mergeSort λx y=>decide (x<=y)).toArray) os:=Any.slices_Sort_int Tryz.lays189 blk off cap zs w hH hblk hsz
def Tryz.lays190_ren:Go.Shelf.Ren:=⟨fun|190=>206|125=>291|258=>290|128=>351|129=>328|302=>342|303=>343|304=>344|305=>345|306=>346|307=>347|308=>348|309=>349|310=>350|333=>370|329=>371|330=>372|334=>373|335=>374|336=>375|344=>381|n=>n,fun|31=>23|9=>9|3=>3|46=>274|0=>0|51=>295|53=>268|4=>4|183=>311|182=>310|131=>220|5=>5|218=>329|222=>126|228=>346|229=>57|n=>n,fun|n=>n⟩
def Tryz.lays190:Go.Proofs.Lays.n190 Tryz.prog Tryz.lays190_ren:=Tryz.lk
open Go.Sort Go.RowKit in
def Tryz.slices_Sort_string (blk off cap:Nat) (ss:List (List UInt8)) (w:World) (hH:Holds encStr w blk off ss.toArray) (hblk:blk<w.heap.size) (hsz:ss.length<4611686018427387904):
 Calls Tryz.prog 206 #[.slice (some ⟨blk,off,none⟩) ss.length cap] w λe w'=>
  e= .returned (.tuple #[])/\∃n os,w'=grow (putRow encStr (Sort.ahead w n) blk off (ss.mergeSort λx y=>decide (x<=y)).toArray) os:=Any.slices_Sort_string Tryz.lays190 blk off cap ss w hH hblk hsz
def Tryz.lays149_ren:Go.Shelf.Ren:=⟨fun|149=>44|222=>124|n=>n,fun|9=>9|5=>5|3=>3|4=>4|n=>n,fun|n=>n⟩
def Tryz.lays149:Go.Proofs.Lays.n149 Tryz.prog Tryz.lays149_ren:=Tryz.lk
open Go.RowKit Go.Lib in
def Tryz.strings_LastIndexByte (s:ByteArray) (c:Int) (hs:s.size<4611686018427387904) (w:World):
 Calls Tryz.prog 44 #[.string s,.int .u8 c] w λe w'=>e= .returned (.int .i64 (Lib.lastIndexByte s c))/\w'=w:=Any.strings_LastIndexByte Tryz.lays149 s c hs w
def Tryz.laysGw17_ren:Go.Shelf.Ren:=⟨fun|17=>180|15=>272|20=>335|n=>n,fun|9=>9|23=>218|4=>4|3=>3|0=>0|21=>21|n=>n,fun|n=>n⟩
def Tryz.laysGw17:Go.Proofs.LaysGw.n17 Tryz.prog Tryz.laysGw17_ren:=Tryz.lk
open Go.RowKit Go.Lib in
def Tryz.strings_ContainsFunc (g:Nat) (lb:Array Value) (eg: ∀args w,(callFunc g args).run Tryz.prog w= .ok (.enter g args) w) (p:Nat->Bool) (s:ByteArray) (w:World) (hp:PredAt Tryz.prog g lb encR p w):
 Calls Tryz.prog 180 #[.string s,.func (.func g) #[] lb] w λe w'=>e= .returned (.bool (decide (0<=Lib.idxFunc p true s)))/\Below w.heap.size w w':=Any.strings_ContainsFunc Tryz.laysGw17 g lb eg p s w hp
def Tryz.lays99_ren:Go.Shelf.Ren:=⟨fun|99=>16|206=>37|n=>n,fun|9=>9|4=>4|3=>3|n=>n,fun|n=>n⟩
def Tryz.lays99:Go.Proofs.Lays.n99 Tryz.prog Tryz.lays99_ren:=Tryz.lk
open Go.RowKit Go.Lib in
def Tryz.strings_HasPrefix (s p:ByteArray) (w:World):
 Calls Tryz.prog 16 #[.string s,.string p] w λe w'=>e= .returned (.bool (Lib.hasPrefix s.data.toList p.data.toList))/\w'=w:=Any.strings_HasPrefix Tryz.lays99 s p w
def Tryz.lays101_ren:Go.Shelf.Ren:=⟨fun|101=>52|208=>155|206=>37|n=>n,fun|9=>9|4=>4|3=>3|n=>n,fun|n=>n⟩
def Tryz.lays101:Go.Proofs.Lays.n101 Tryz.prog Tryz.lays101_ren:=Tryz.lk
open Go.RowKit Go.Lib in
def Tryz.strings_TrimPrefix (s p:ByteArray) (w:World):
 Calls Tryz.prog 52 #[.string s,.string p] w λe w'=>e= .returned (.string ⟨(Lib.trimPrefix s.data.toList p.data.toList).toArray⟩)/\w'=w:=Any.strings_TrimPrefix Tryz.lays101 s p w
def Tryz.lays146_ren:Go.Shelf.Ren:=⟨fun|146=>13|221=>36|268=>112|138=>43|143=>113|195=>122|197=>183|218=>123|219=>184|260=>274|217=>275|225=>276|224=>277|267=>278|266=>337|314=>338|n=>n,fun|9=>9|31=>23|3=>3|4=>4|0=>0|105=>224|21=>21|5=>5|46=>274|119=>300|139=>303|138=>302|146=>304|51=>295|n=>n,fun|1=>0|3=>2|4=>3|n=>n⟩
def Tryz.lays146:Go.Proofs.Lays.n146 Tryz.prog Tryz.lays146_ren:=Tryz.lk
open Go.RowKit Go.Lib in
def Tryz.strings_Split (s sep:ByteArray) (m:Int) (w:World) (hs:s.size<4294967281) (hm:w.cell? ⟨0,0,none⟩=some (.int .i64 m)) (h1:1<=sep.size):
 Calls Tryz.prog 13 #[.string s,.string sep] w λe w'=>
  e= .returned (.slice (some ⟨w.heap.size,0,none⟩) (Lib.countB s sep+1) (Lib.countB s sep+1))/\w'=w.alloc (.cells ((Lib.splitB sep 0 (Lib.countB s sep) s).map Value.string).toArray 9):=Any.strings_Split Tryz.lays146 (by kernel_rfl) s sep m w hs hm h1
def Tryz.lays157_ren:Go.Shelf.Ren:=⟨fun|157=>307|229=>361|199=>362|261=>380|311=>383|312=>384|n=>n,fun|9=>9|31=>23|3=>3|5=>5|4=>4|119=>300|0=>0|40=>218|152=>336|21=>21|154=>338|51=>295|141=>340|196=>352|193=>349|198=>355|49=>353|194=>350|201=>358|226=>360|46=>274|227=>361|n=>n,fun|0=>4|6=>7|n=>n⟩
def Tryz.lays157:Go.Proofs.Lays.n157 Tryz.prog Tryz.lays157_ren:=Tryz.lk
open Go.RowKit Go.Lib in
def Tryz.strings_Fields (s:ByteArray) (w:World) (hs:s.size<4294967281) (hascii: ∀(j:Nat) b,s.data.toList[j]? =some b→b.toNat<128) (htab:Lib.TabIs Tryz.prog w "strings.asciiSpace" .u8 Lib.asciiSpaceTab):
 Calls Tryz.prog 307 #[.string s] w λe w'=>
  e= .returned (.slice (some ⟨w.heap.size,0,none⟩) (Lib.fields s.data.toList).length (Lib.fields s.data.toList).length)/\w'=w.alloc (.cells ((Lib.fields s.data.toList).map λl=>Value.string ⟨l.toArray⟩).toArray 9):=Any.strings_Fields Tryz.lays157 (by kernel_rfl) (by kernel_rfl) s w hs hascii htab
def Tryz.lays107_ren:Go.Shelf.Ren:=⟨fun|107=>157|108=>237|n=>n,fun|28=>31|3=>3|4=>4|0=>0|n=>n,fun|n=>n⟩
def Tryz.lays107:Go.Proofs.Lays.n107 Tryz.prog Tryz.lays107_ren:=Tryz.lk
open Go.Lib in
def Tryz.slices_Contains_int (b off n c:Nat) (zs:List Int) (x:Int) (w:World) (hz:n<=zs.length) (hbig:n<=9223372036854775807) (hc: ∀j,j<zs.length->w.cell? ⟨b,off+j,none⟩=some (.int .i64 (zs.getD j 0))):
 Calls Tryz.prog 157 #[.slice (some ⟨b,off,none⟩) n c,.int .i64 x] w λe w'=>e= .returned (.bool ((zs.take n).contains x))/\w'=w:=Any.slices_Contains_int Tryz.lays107 b off n c zs x w hz hbig hc
open Go.Lib in
def Tryz.slices_Contains_int_empty (a:Option Addr) (c:Nat) (x:Int) (w:World):
 Calls Tryz.prog 157 #[.slice a 0 c,.int .i64 x] w λe w'=>e= .returned (.bool false)/\w'=w:=Any.slices_Contains_int_empty Tryz.lays107 a c x w
def Tryz.lays110_ren:Go.Shelf.Ren:=⟨fun|110=>199|109=>287|n=>n,fun|31=>23|9=>9|4=>4|3=>3|0=>0|n=>n,fun|n=>n⟩
def Tryz.lays110:Go.Proofs.Lays.n110 Tryz.prog Tryz.lays110_ren:=Tryz.lk
open Go.Lib in
def Tryz.slices_Contains_string (b off n c:Nat) (zs:List ByteArray) (x:ByteArray) (w:World) (hz:n<=zs.length) (hbig:n<=9223372036854775807) (hc: ∀j,j<zs.length->w.cell? ⟨b,off+j,none⟩=some (.string (zs.getD j ByteArray.empty))):
 Calls Tryz.prog 199 #[.slice (some ⟨b,off,none⟩) n c,.string x] w λe w'=>e= .returned (.bool (Lib.containsS (zs.take n) x))/\w'=w:=Any.slices_Contains_string Tryz.lays110 b off n c zs x w hz hbig hc
open Go.Lib in
def Tryz.slices_Contains_string_empty (a:Option Addr) (c:Nat) (x:ByteArray) (w:World):
 Calls Tryz.prog 199 #[.slice a 0 c,.string x] w λe w'=>e= .returned (.bool false)/\w'=w:=Any.slices_Contains_string_empty Tryz.lays110 a c x w
def Tryz.lays111_ren:Go.Shelf.Ren:=⟨fun|111=>182|n=>n,fun|28=>31|3=>3|4=>4|0=>0|n=>n,fun|n=>n⟩
def Tryz.lays111:Go.Proofs.Lays.n111 Tryz.prog Tryz.lays111_ren:=Tryz.lk
open Go.RowKit Go.Lib in
def Tryz.slices_Equal_int (b1 o1 n c b2 o2 m d:Nat) (xs ys:List Int) (w:World) (hx:n<=xs.length) (hy:m<=ys.length) (hbig:n<=9223372036854775807) (hbig2:m<=9223372036854775807) (hc1: ∀j,j<xs.length->w.cell? ⟨b1,o1+j,none⟩=some (.int .i64 (xs.getD j 0))) (hc2: ∀j,j<ys.length->w.cell? ⟨b2,o2+j,none⟩=some (.int .i64 (ys.getD j 0))):
 Calls Tryz.prog 182 #[.slice (some ⟨b1,o1,none⟩) n c,.slice (some ⟨b2,o2,none⟩) m d] w λe w'=>e= .returned (.bool (xs.take n==ys.take m))/\∃q,w'=w.drewN q:=Any.slices_Equal_int Tryz.lays111 b1 o1 n c b2 o2 m d xs ys w hx hy hbig hbig2 hc1 hc2
open Go.RowKit Go.Lib in
def Tryz.slices_Equal_int_empty (a1 a2:Option Addr) (c m d:Nat) (w:World) (hbig2:m<=9223372036854775807):
 Calls Tryz.prog 182 #[.slice a1 0 c,.slice a2 m d] w λe w'=>e= .returned (.bool (decide (m=0)))/\w'=w:=Any.slices_Equal_int_empty Tryz.lays111 a1 a2 c m d w hbig2
def Tryz.lays194_ren:Go.Shelf.Ren:=⟨fun|194=>141|n=>n,fun|31=>23|9=>9|3=>3|4=>4|0=>0|n=>n,fun|n=>n⟩
def Tryz.lays194:Go.Proofs.Lays.n194 Tryz.prog Tryz.lays194_ren:=Tryz.lk
open Go.RowKit Go.Lib Go.Sort in
def Tryz.slices_Compact_string (blk off cap:Nat) (zs:List (List UInt8)) (w:World) (hH:Holds encStr w blk off zs.toArray) (hsz:zs.length<=9223372036854775807) (hcap:zs.length<=cap):
 Calls Tryz.prog 141 #[.slice (some ⟨blk,off,none⟩) zs.length cap] w λe w'=>e= .returned (.slice (some ⟨blk,off,none⟩) (Lib.compact zs).length cap)/\∃q,w'=putRow encStr (Sort.ahead w q) blk off (Lib.compact zs++List.replicate (zs.length - (Lib.compact zs).length) []).toArray:=Any.slices_Compact_string Tryz.lays194 blk off cap zs w hH hsz hcap
open Go.RowKit Go.Lib Go.Sort in
def Tryz.slices_Compact_string_empty (a:Option Addr) (cap:Nat) (w:World):
 Calls Tryz.prog 141 #[.slice a 0 cap] w λe w'=>e= .returned (.slice a 0 cap)/\w'=w:=Any.slices_Compact_string_empty Tryz.lays194 a cap w
open Go.RowKit Go.Lib Go.Sort in
open Go.RowKit Go.Sort in
def Tryz.slices_Sort_string_none (p:Option Addr) (cap:Nat) (w:World):
 Calls Tryz.prog 206 #[.slice p 0 cap] w λe w'=>e= .returned (.tuple #[])/\w'=w:=Any.slices_Sort_string_none Tryz.lays190 p cap w
open Go.RowKit Go.Sort in
def Tryz.slices_Sort_int_none (p:Option Addr) (cap:Nat) (w:World):
 Calls Tryz.prog 209 #[.slice p 0 cap] w λe w'=>e= .returned (.tuple #[])/\w'=w:=Any.slices_Sort_int_none Tryz.lays189 p cap w
open Go.RowKit Go.Lib in
def Tryz.slices_Equal_int_lens (a1 a2:Option Addr) (n c m d:Nat) (w:World) (hnm:n≠m):
 Calls Tryz.prog 182 #[.slice a1 n c,.slice a2 m d] w λe w'=>e= .returned (.bool false)/\w'=w:=Any.slices_Equal_int_lens Tryz.lays111 a1 a2 n c m d w hnm
end Go.Proofs
