import Derived.Shelf.Strconv.Itoa3
import Derived.Shelf.Strings.SplitShaped
import Derived.Shelf.Strconv.Atoi
import Derived.Shelf.Strconv.AtoiErr
import Derived.Lib.AppendIntMem
import Derived.Shelf.Strings.Builder1
import Derived.Shelf.Strings.Prefix
import Derived.Test.YtlinnkjieghmhaaGreatDoorM203
set_option maxHeartbeats 4000000
set_option linter.unusedSimpArgs false
set_option linter.unusedVariables false
namespace Go.Proofs.YtlinnkjieghmhaaGreatDoor
open Go Go.Lite Go.Proofs
open Go.Shelf Go.RowKit Go.Sort Go.Lib
def Tryz.lays172_ren:Go.Shelf.Ren:=⟨fun | 172=>65 | 244=>79 | 245=>80 | 247=>104 | 279=>105 | 280=>106 | 281=>107 | 282=>108 | 287=>120 | 316=>121 | 171=>26 | 205=>122 | 321=>128 | 322=>129 | 243=>53 | 246=>72 | 283=>93 | 284=>94 | 285=>95 | 286=>96 | 129=>111 | 317=>110 | 318=>112 | 319=>113 | 320=>114 | 337=>124 | 338=>125 | n=>n,fun | 9=>9 | 3=>3 | 75=>55 | 76=>56 | 4=>4 | 5=>5 | 167=>136 | 37=>22 | 0=>0 | 85=>137 | 2=>2 | 168=>139 | 53=>126 | 175=>148 | 46=>114 | 210=>152 | 127=>91 | 145=>164 | 143=>162 | 21=>21 | 171=>125 | 173=>129 | 212=>144 | 51=>145 | 20=>20 | 213=>146 | 232=>165 | 233=>166 | 80=>63 | n=>n,fun | 15=>2 | 16=>3 | 17=>1 | 18=>6 | 19=>7 | n=>n⟩
theorem Tryz.lays172 : Go.Proofs.Lays.n172 Tryz.prog Tryz.lays172_ren := {
  mixed:=by kernel_rfl
  f129:=Tryz.func111.trans (congrArg some (by kernel_rfl))
  f171:=Tryz.func26.trans (congrArg some (by kernel_rfl))
  f172:=Tryz.func65.trans (congrArg some (by kernel_rfl))
  f205:=Tryz.func122.trans (congrArg some (by kernel_rfl))
  f243:=Tryz.func53.trans (congrArg some (by kernel_rfl))
  f244:=Tryz.func79.trans (congrArg some (by kernel_rfl))
  f245:=Tryz.func80.trans (congrArg some (by kernel_rfl))
  f246:=Tryz.func72.trans (congrArg some (by kernel_rfl))
  f247:=Tryz.func104.trans (congrArg some (by kernel_rfl))
  f279:=Tryz.func105.trans (congrArg some (by kernel_rfl))
  f280:=Tryz.func106.trans (congrArg some (by kernel_rfl))
  f281:=Tryz.func107.trans (congrArg some (by kernel_rfl))
  f282:=Tryz.func108.trans (congrArg some (by kernel_rfl))
  f283:=Tryz.func93.trans (congrArg some (by kernel_rfl))
  f284:=Tryz.func94.trans (congrArg some (by kernel_rfl))
  f285:=Tryz.func95.trans (congrArg some (by kernel_rfl))
  f286:=Tryz.func96.trans (congrArg some (by kernel_rfl))
  f287:=Tryz.func120.trans (congrArg some (by kernel_rfl))
  f316:=Tryz.func121.trans (congrArg some (by kernel_rfl))
  f317:=Tryz.func110.trans (congrArg some (by kernel_rfl))
  f318:=Tryz.func112.trans (congrArg some (by kernel_rfl))
  f319:=Tryz.func113.trans (congrArg some (by kernel_rfl))
  f320:=Tryz.func114.trans (congrArg some (by kernel_rfl))
  f321:=Tryz.func128.trans (congrArg some (by kernel_rfl))
  f322:=Tryz.func129.trans (congrArg some (by kernel_rfl))
  f337:=Tryz.func124.trans (congrArg some (by kernel_rfl))
  f338:=Tryz.func125.trans (congrArg some (by kernel_rfl))
  t0:=Tryz.underlying0
  a0:=Tryz.isAgg0
  z0:=Tryz.sizeOf0
  v0:=Tryz.zeroValue0
  t2:=Tryz.underlying2
  a2:=Tryz.isAgg2
  z2:=Tryz.sizeOf2
  v2:=Tryz.zeroValue2
  t3:=Tryz.underlying3
  a3:=Tryz.isAgg3
  z3:=Tryz.sizeOf3
  v3:=Tryz.zeroValue3
  t4:=Tryz.underlying4
  a4:=Tryz.isAgg4
  z4:=Tryz.sizeOf4
  v4:=Tryz.zeroValue4
  t5:=Tryz.underlying5
  a5:=Tryz.isAgg5
  z5:=Tryz.sizeOf5
  v5:=Tryz.zeroValue5
  t9:=Tryz.underlying9
  a9:=Tryz.isAgg9
  z9:=Tryz.sizeOf9
  v9:=Tryz.zeroValue9
  t20:=Tryz.underlying20
  a20:=Tryz.isAgg20
  z20:=Tryz.sizeOf20
  v20:=Tryz.zeroValue20
  t21:=Tryz.underlying21
  a21:=Tryz.isAgg21
  z21:=Tryz.sizeOf21
  v21:=Tryz.zeroValue21
  t37:=Tryz.underlying22
  a37:=Tryz.isAgg22
  z37:=Tryz.sizeOf22
  v37:=Tryz.zeroValue22
  t46:=Tryz.underlying114
  a46:=Tryz.isAgg114
  z46:=Tryz.sizeOf114
  v46:=Tryz.zeroValue114
  t51:=Tryz.underlying145
  a51:=Tryz.isAgg145
  z51:=Tryz.sizeOf145
  v51:=Tryz.zeroValue145
  t53:=Tryz.underlying126
  a53:=Tryz.isAgg126
  z53:=Tryz.sizeOf126
  v53:=Tryz.zeroValue126
  t75:=Tryz.underlying55
  a75:=Tryz.isAgg55
  z75:=Tryz.sizeOf55
  v75:=Tryz.zeroValue55
  t76:=Tryz.underlying56
  a76:=Tryz.isAgg56
  z76:=Tryz.sizeOf56
  v76:=Tryz.zeroValue56
  t85:=Tryz.underlying137
  a85:=Tryz.isAgg137
  z85:=Tryz.sizeOf137
  v85:=Tryz.zeroValue137
  t127:=Tryz.underlying91
  a127:=Tryz.isAgg91
  z127:=Tryz.sizeOf91
  v127:=Tryz.zeroValue91
  t143:=Tryz.underlying162
  a143:=Tryz.isAgg162
  z143:=Tryz.sizeOf162
  v143:=Tryz.zeroValue162
  t145:=Tryz.underlying164
  a145:=Tryz.isAgg164
  z145:=Tryz.sizeOf164
  v145:=Tryz.zeroValue164
  t167:=Tryz.underlying136
  a167:=Tryz.isAgg136
  z167:=Tryz.sizeOf136
  v167:=Tryz.zeroValue136
  t168:=Tryz.underlying139
  a168:=Tryz.isAgg139
  z168:=Tryz.sizeOf139
  v168:=Tryz.zeroValue139
  t171:=Tryz.underlying125
  a171:=Tryz.isAgg125
  z171:=Tryz.sizeOf125
  v171:=Tryz.zeroValue125
  t173:=Tryz.underlying129
  a173:=Tryz.isAgg129
  z173:=Tryz.sizeOf129
  v173:=Tryz.zeroValue129
  t175:=Tryz.underlying148
  a175:=Tryz.isAgg148
  z175:=Tryz.sizeOf148
  v175:=Tryz.zeroValue148
  t210:=Tryz.underlying152
  a210:=Tryz.isAgg152
  z210:=Tryz.sizeOf152
  v210:=Tryz.zeroValue152
  t212:=Tryz.underlying144
  a212:=Tryz.isAgg144
  z212:=Tryz.sizeOf144
  v212:=Tryz.zeroValue144
  t213:=Tryz.underlying146
  a213:=Tryz.isAgg146
  z213:=Tryz.sizeOf146
  t232:=Tryz.underlying165
  a232:=Tryz.isAgg165
  z232:=Tryz.sizeOf165
  v232:=Tryz.zeroValue165
  t233:=Tryz.underlying166
  a233:=Tryz.isAgg166
  z233:=Tryz.sizeOf166
  v233:=Tryz.zeroValue166
  g15:=by kernel_rfl
  g16:=by kernel_rfl
  g17:=by kernel_rfl
  g18:=by kernel_rfl
  g19:=by kernel_rfl }
theorem Tryz.strconv_Atoi (s : ByteArray) (n : Int) (hl : s.size ≤ 18) (h : Lib.atoi s.data.toList = some n) (w : World) :
    Calls Tryz.prog 65 #[.string s] w fun e w'=>e=.returned (.tuple #[.int .i64 n,.nilIface])∧∃ t,w'=Lib.bytesWorld w 5 t:=Any.strconv_Atoi Tryz.lays172 s n hl h w
def Tryz.laysM171_ren:Go.Shelf.Ren:=⟨fun | 171=>26 | 243=>53 | 246=>72 | 283=>93 | 284=>94 | 285=>95 | 286=>96 | 129=>111 | 317=>110 | 318=>112 | 319=>113 | 320=>114 | 337=>124 | 338=>125 | n=>n,fun | 3=>3 | 9=>9 | 2=>2 | 4=>4 | 171=>125 | 0=>0 | 53=>126 | 37=>22 | 5=>5 | 173=>129 | 212=>144 | 51=>145 | 20=>20 | 213=>146 | 46=>114 | 232=>165 | 233=>166 | n=>n,fun | 17=>1 | 18=>6 | 19=>7 | n=>n⟩
theorem Tryz.laysM171 : Go.Proofs.LaysM.n171 Tryz.prog Tryz.laysM171_ren := {
  mixed:=by kernel_rfl
  f129:=Tryz.func111.trans (congrArg some (by kernel_rfl))
  f171:=Tryz.func26.trans (congrArg some (by kernel_rfl))
  f243:=Tryz.func53.trans (congrArg some (by kernel_rfl))
  f246:=Tryz.func72.trans (congrArg some (by kernel_rfl))
  f283:=Tryz.func93.trans (congrArg some (by kernel_rfl))
  f284:=Tryz.func94.trans (congrArg some (by kernel_rfl))
  f285:=Tryz.func95.trans (congrArg some (by kernel_rfl))
  f286:=Tryz.func96.trans (congrArg some (by kernel_rfl))
  f317:=Tryz.func110.trans (congrArg some (by kernel_rfl))
  f318:=Tryz.func112.trans (congrArg some (by kernel_rfl))
  f319:=Tryz.func113.trans (congrArg some (by kernel_rfl))
  f320:=Tryz.func114.trans (congrArg some (by kernel_rfl))
  f337:=Tryz.func124.trans (congrArg some (by kernel_rfl))
  f338:=Tryz.func125.trans (congrArg some (by kernel_rfl))
  t0:=Tryz.underlying0
  a0:=Tryz.isAgg0
  z0:=Tryz.sizeOf0
  v0:=Tryz.zeroValue0
  t2:=Tryz.underlying2
  a2:=Tryz.isAgg2
  z2:=Tryz.sizeOf2
  v2:=Tryz.zeroValue2
  t3:=Tryz.underlying3
  a3:=Tryz.isAgg3
  z3:=Tryz.sizeOf3
  v3:=Tryz.zeroValue3
  t4:=Tryz.underlying4
  a4:=Tryz.isAgg4
  z4:=Tryz.sizeOf4
  v4:=Tryz.zeroValue4
  t5:=Tryz.underlying5
  a5:=Tryz.isAgg5
  z5:=Tryz.sizeOf5
  v5:=Tryz.zeroValue5
  t9:=Tryz.underlying9
  a9:=Tryz.isAgg9
  z9:=Tryz.sizeOf9
  v9:=Tryz.zeroValue9
  t20:=Tryz.underlying20
  a20:=Tryz.isAgg20
  z20:=Tryz.sizeOf20
  v20:=Tryz.zeroValue20
  t37:=Tryz.underlying22
  a37:=Tryz.isAgg22
  z37:=Tryz.sizeOf22
  v37:=Tryz.zeroValue22
  t46:=Tryz.underlying114
  a46:=Tryz.isAgg114
  z46:=Tryz.sizeOf114
  v46:=Tryz.zeroValue114
  t51:=Tryz.underlying145
  a51:=Tryz.isAgg145
  z51:=Tryz.sizeOf145
  v51:=Tryz.zeroValue145
  t53:=Tryz.underlying126
  a53:=Tryz.isAgg126
  z53:=Tryz.sizeOf126
  v53:=Tryz.zeroValue126
  t171:=Tryz.underlying125
  a171:=Tryz.isAgg125
  z171:=Tryz.sizeOf125
  v171:=Tryz.zeroValue125
  t173:=Tryz.underlying129
  a173:=Tryz.isAgg129
  z173:=Tryz.sizeOf129
  v173:=Tryz.zeroValue129
  t212:=Tryz.underlying144
  a212:=Tryz.isAgg144
  z212:=Tryz.sizeOf144
  v212:=Tryz.zeroValue144
  t213:=Tryz.underlying146
  a213:=Tryz.isAgg146
  z213:=Tryz.sizeOf146
  t232:=Tryz.underlying165
  a232:=Tryz.isAgg165
  z232:=Tryz.sizeOf165
  v232:=Tryz.zeroValue165
  t233:=Tryz.underlying166
  a233:=Tryz.isAgg166
  z233:=Tryz.sizeOf166
  v233:=Tryz.zeroValue166
  g17:=by kernel_rfl
  g18:=by kernel_rfl
  g19:=by kernel_rfl
  i0:=by kernel_rfl
  i2:=by kernel_rfl
  i3:=by kernel_rfl
  i4:=by kernel_rfl
  i5:=by kernel_rfl
  i9:=by kernel_rfl
  i20:=by kernel_rfl
  i37:=by kernel_rfl
  i46:=by kernel_rfl
  i51:=by kernel_rfl
  i53:=by kernel_rfl
  i171:=by kernel_rfl
  i173:=by kernel_rfl
  i212:=by kernel_rfl
  i232:=by kernel_rfl
  i233:=by kernel_rfl
  m17:=by kernel_rfl
  m18:=by kernel_rfl
  m19:=by kernel_rfl }
theorem Tryz.strconv_Itoa (n : Int) (h0 : -9223372036854775808 ≤ n) (h1 : n ≤ 9223372036854775807) (w : World) (htab : Lib.TabIs Tryz.prog w "internal/strconv.uint64pow10" .u64 Lib.pow10Tab) :
    Calls Tryz.prog 26 #[.int .i64 n] w fun e w'=>e=.returned (.string ⟨(Lib.itoa n).toArray⟩)∧∃ k os,w'=grow (w.drewN k) os:=Any.strconv_Itoa Tryz.laysM171 n h0 h1 w htab
def Tryz.laysC172_ren:Go.Shelf.Ren:=⟨fun | 172=>65 | 244=>79 | 245=>80 | 247=>104 | 279=>105 | 280=>106 | 281=>107 | 282=>108 | 287=>120 | 316=>121 | 171=>26 | 205=>122 | 321=>128 | 322=>129 | 243=>53 | 246=>72 | 283=>93 | 284=>94 | 285=>95 | 286=>96 | 129=>111 | 317=>110 | 318=>112 | 319=>113 | 320=>114 | 337=>124 | 338=>125 | n=>n,fun | 9=>9 | 3=>3 | 75=>55 | 76=>56 | 4=>4 | 5=>5 | 167=>136 | 37=>22 | 0=>0 | 85=>137 | 2=>2 | 168=>139 | 53=>126 | 175=>148 | 46=>114 | 210=>152 | 127=>91 | 145=>164 | 143=>162 | 21=>21 | 171=>125 | 173=>129 | 212=>144 | 51=>145 | 20=>20 | 213=>146 | 232=>165 | 233=>166 | 80=>63 | n=>n,fun | 15=>2 | 16=>3 | 17=>1 | 18=>6 | 19=>7 | n=>n⟩
theorem Tryz.laysC172 : Go.Proofs.LaysC.n172 Tryz.prog Tryz.laysC172_ren := {
  mixed:=by kernel_rfl
  f129:=Tryz.func111.trans (congrArg some (by kernel_rfl))
  f171:=Tryz.func26.trans (congrArg some (by kernel_rfl))
  f172:=Tryz.func65.trans (congrArg some (by kernel_rfl))
  f205:=Tryz.func122.trans (congrArg some (by kernel_rfl))
  f243:=Tryz.func53.trans (congrArg some (by kernel_rfl))
  f244:=Tryz.func79.trans (congrArg some (by kernel_rfl))
  f245:=Tryz.func80.trans (congrArg some (by kernel_rfl))
  f246:=Tryz.func72.trans (congrArg some (by kernel_rfl))
  f247:=Tryz.func104.trans (congrArg some (by kernel_rfl))
  f279:=Tryz.func105.trans (congrArg some (by kernel_rfl))
  f280:=Tryz.func106.trans (congrArg some (by kernel_rfl))
  f281:=Tryz.func107.trans (congrArg some (by kernel_rfl))
  f282:=Tryz.func108.trans (congrArg some (by kernel_rfl))
  f283:=Tryz.func93.trans (congrArg some (by kernel_rfl))
  f284:=Tryz.func94.trans (congrArg some (by kernel_rfl))
  f285:=Tryz.func95.trans (congrArg some (by kernel_rfl))
  f286:=Tryz.func96.trans (congrArg some (by kernel_rfl))
  f287:=Tryz.func120.trans (congrArg some (by kernel_rfl))
  f316:=Tryz.func121.trans (congrArg some (by kernel_rfl))
  f317:=Tryz.func110.trans (congrArg some (by kernel_rfl))
  f318:=Tryz.func112.trans (congrArg some (by kernel_rfl))
  f319:=Tryz.func113.trans (congrArg some (by kernel_rfl))
  f320:=Tryz.func114.trans (congrArg some (by kernel_rfl))
  f321:=Tryz.func128.trans (congrArg some (by kernel_rfl))
  f322:=Tryz.func129.trans (congrArg some (by kernel_rfl))
  f337:=Tryz.func124.trans (congrArg some (by kernel_rfl))
  f338:=Tryz.func125.trans (congrArg some (by kernel_rfl))
  t0:=Tryz.underlying0
  a0:=Tryz.isAgg0
  z0:=Tryz.sizeOf0
  v0:=Tryz.zeroValue0
  t2:=Tryz.underlying2
  a2:=Tryz.isAgg2
  z2:=Tryz.sizeOf2
  v2:=Tryz.zeroValue2
  t3:=Tryz.underlying3
  a3:=Tryz.isAgg3
  z3:=Tryz.sizeOf3
  v3:=Tryz.zeroValue3
  t4:=Tryz.underlying4
  a4:=Tryz.isAgg4
  z4:=Tryz.sizeOf4
  v4:=Tryz.zeroValue4
  t5:=Tryz.underlying5
  a5:=Tryz.isAgg5
  z5:=Tryz.sizeOf5
  v5:=Tryz.zeroValue5
  t9:=Tryz.underlying9
  a9:=Tryz.isAgg9
  z9:=Tryz.sizeOf9
  v9:=Tryz.zeroValue9
  t20:=Tryz.underlying20
  a20:=Tryz.isAgg20
  z20:=Tryz.sizeOf20
  v20:=Tryz.zeroValue20
  t21:=Tryz.underlying21
  a21:=Tryz.isAgg21
  z21:=Tryz.sizeOf21
  v21:=Tryz.zeroValue21
  t37:=Tryz.underlying22
  a37:=Tryz.isAgg22
  z37:=Tryz.sizeOf22
  v37:=Tryz.zeroValue22
  t46:=Tryz.underlying114
  a46:=Tryz.isAgg114
  z46:=Tryz.sizeOf114
  v46:=Tryz.zeroValue114
  t51:=Tryz.underlying145
  a51:=Tryz.isAgg145
  z51:=Tryz.sizeOf145
  v51:=Tryz.zeroValue145
  t53:=Tryz.underlying126
  a53:=Tryz.isAgg126
  z53:=Tryz.sizeOf126
  v53:=Tryz.zeroValue126
  t75:=Tryz.underlying55
  a75:=Tryz.isAgg55
  z75:=Tryz.sizeOf55
  v75:=Tryz.zeroValue55
  t76:=Tryz.underlying56
  a76:=Tryz.isAgg56
  z76:=Tryz.sizeOf56
  v76:=Tryz.zeroValue56
  t85:=Tryz.underlying137
  a85:=Tryz.isAgg137
  z85:=Tryz.sizeOf137
  v85:=Tryz.zeroValue137
  t127:=Tryz.underlying91
  a127:=Tryz.isAgg91
  z127:=Tryz.sizeOf91
  v127:=Tryz.zeroValue91
  t143:=Tryz.underlying162
  a143:=Tryz.isAgg162
  z143:=Tryz.sizeOf162
  v143:=Tryz.zeroValue162
  t145:=Tryz.underlying164
  a145:=Tryz.isAgg164
  z145:=Tryz.sizeOf164
  v145:=Tryz.zeroValue164
  t167:=Tryz.underlying136
  a167:=Tryz.isAgg136
  z167:=Tryz.sizeOf136
  v167:=Tryz.zeroValue136
  t168:=Tryz.underlying139
  a168:=Tryz.isAgg139
  z168:=Tryz.sizeOf139
  v168:=Tryz.zeroValue139
  t171:=Tryz.underlying125
  a171:=Tryz.isAgg125
  z171:=Tryz.sizeOf125
  v171:=Tryz.zeroValue125
  t173:=Tryz.underlying129
  a173:=Tryz.isAgg129
  z173:=Tryz.sizeOf129
  v173:=Tryz.zeroValue129
  t175:=Tryz.underlying148
  a175:=Tryz.isAgg148
  z175:=Tryz.sizeOf148
  v175:=Tryz.zeroValue148
  t210:=Tryz.underlying152
  a210:=Tryz.isAgg152
  z210:=Tryz.sizeOf152
  v210:=Tryz.zeroValue152
  t212:=Tryz.underlying144
  a212:=Tryz.isAgg144
  z212:=Tryz.sizeOf144
  v212:=Tryz.zeroValue144
  t213:=Tryz.underlying146
  a213:=Tryz.isAgg146
  z213:=Tryz.sizeOf146
  t232:=Tryz.underlying165
  a232:=Tryz.isAgg165
  z232:=Tryz.sizeOf165
  v232:=Tryz.zeroValue165
  t233:=Tryz.underlying166
  a233:=Tryz.isAgg166
  z233:=Tryz.sizeOf166
  v233:=Tryz.zeroValue166
  g15:=by kernel_rfl
  g16:=by kernel_rfl
  g17:=by kernel_rfl
  g18:=by kernel_rfl
  g19:=by kernel_rfl
  t80:=Tryz.underlying63
  a80:=Tryz.isAgg63
  z80:=Tryz.sizeOf63
  v80:=Tryz.zeroValue63
  i0:=by kernel_rfl
  i2:=by kernel_rfl
  i3:=by kernel_rfl
  i4:=by kernel_rfl
  i5:=by kernel_rfl
  i9:=by kernel_rfl
  i20:=by kernel_rfl
  i21:=by kernel_rfl
  i37:=by kernel_rfl
  i46:=by kernel_rfl
  i51:=by kernel_rfl
  i53:=by kernel_rfl
  i75:=by kernel_rfl
  i76:=by kernel_rfl
  i80:=by kernel_rfl
  i85:=by kernel_rfl
  i127:=by kernel_rfl
  i143:=by kernel_rfl
  i145:=by kernel_rfl
  i167:=by kernel_rfl
  i168:=by kernel_rfl
  i171:=by kernel_rfl
  i173:=by kernel_rfl
  i175:=by kernel_rfl
  i210:=by kernel_rfl
  i212:=by kernel_rfl
  i232:=by kernel_rfl
  i233:=by kernel_rfl
  m15:=by kernel_rfl
  m16:=by kernel_rfl
  m17:=by kernel_rfl
  m18:=by kernel_rfl
  m19:=by kernel_rfl
  c0:=by kernel_rfl
  c2:=by kernel_rfl
  c3:=by kernel_rfl
  c4:=by kernel_rfl
  c5:=by kernel_rfl
  c9:=by kernel_rfl
  c20:=by kernel_rfl
  c21:=by kernel_rfl
  c37:=by kernel_rfl
  c46:=by kernel_rfl
  c51:=by kernel_rfl
  c53:=by kernel_rfl
  c75:=by kernel_rfl
  c76:=by kernel_rfl
  c80:=by kernel_rfl
  c85:=by kernel_rfl
  c127:=by kernel_rfl
  c143:=by kernel_rfl
  c145:=by kernel_rfl
  c167:=by kernel_rfl
  c168:=by kernel_rfl
  c171:=by kernel_rfl
  c173:=by kernel_rfl
  c175:=by kernel_rfl
  c210:=by kernel_rfl
  c212:=by kernel_rfl
  c213:=by kernel_rfl
  c232:=by kernel_rfl
  c233:=by kernel_rfl }
theorem Tryz.strconv_Atoi_err (s : ByteArray) (hl : s.size ≤ 18) (h : Lib.atoi s.data.toList = none) (ev : Value) (w : World) (hv : w.cell? ⟨2, 0, none⟩ = some ev) (hev : ev = .nilIface ∨ ∃ te pe, ev = .iface te pe) :
    Calls Tryz.prog 65 #[.string s] w fun e w'=>∃ N,e=.returned (.tuple #[.int .i64 0,.iface 139 (.pointer (some ⟨N,0,none⟩))])∧w.heap.size≤N∧w'.heap[N]?=some (.cells #[.string ⟨#[65,116,111,105]⟩,.string s,ev] 152 (0,0))∧Below w.heap.size w w':=Any.strconv_Atoi_err Tryz.laysC172 s hl h ev w hv hev
def Tryz.lays146_ren:Go.Shelf.Ren:=⟨fun | 146=>39 | 221=>64 | 268=>76 | 138=>77 | 143=>78 | 195=>100 | 197=>101 | 218=>102 | 219=>103 | 260=>115 | 217=>116 | 225=>117 | 224=>118 | 267=>119 | 266=>126 | 314=>127 | n=>n,fun | 9=>9 | 31=>43 | 3=>3 | 4=>4 | 0=>0 | 105=>133 | 21=>21 | 5=>5 | 46=>114 | 119=>155 | 139=>158 | 138=>157 | 146=>159 | 51=>145 | n=>n,fun | 1=>0 | 3=>4 | 4=>5 | n=>n⟩
theorem Tryz.lays146 : Go.Proofs.Lays.n146 Tryz.prog Tryz.lays146_ren := {
  mixed:=by kernel_rfl
  f138:=Tryz.func77.trans (congrArg some (by kernel_rfl))
  f143:=Tryz.func78.trans (congrArg some (by kernel_rfl))
  f146:=Tryz.func39.trans (congrArg some (by kernel_rfl))
  f195:=Tryz.func100.trans (congrArg some (by kernel_rfl))
  f197:=Tryz.func101.trans (congrArg some (by kernel_rfl))
  f217:=Tryz.func116.trans (congrArg some (by kernel_rfl))
  f218:=Tryz.func102.trans (congrArg some (by kernel_rfl))
  f219:=Tryz.func103.trans (congrArg some (by kernel_rfl))
  f221:=Tryz.func64.trans (congrArg some (by kernel_rfl))
  f224:=Tryz.func118.trans (congrArg some (by kernel_rfl))
  f225:=Tryz.func117.trans (congrArg some (by kernel_rfl))
  f260:=Tryz.func115.trans (congrArg some (by kernel_rfl))
  f266:=Tryz.func126.trans (congrArg some (by kernel_rfl))
  f267:=Tryz.func119.trans (congrArg some (by kernel_rfl))
  f268:=Tryz.func76.trans (congrArg some (by kernel_rfl))
  f314:=Tryz.func127.trans (congrArg some (by kernel_rfl))
  t0:=Tryz.underlying0
  a0:=Tryz.isAgg0
  z0:=Tryz.sizeOf0
  v0:=Tryz.zeroValue0
  t3:=Tryz.underlying3
  a3:=Tryz.isAgg3
  z3:=Tryz.sizeOf3
  v3:=Tryz.zeroValue3
  t4:=Tryz.underlying4
  a4:=Tryz.isAgg4
  z4:=Tryz.sizeOf4
  v4:=Tryz.zeroValue4
  t5:=Tryz.underlying5
  a5:=Tryz.isAgg5
  z5:=Tryz.sizeOf5
  v5:=Tryz.zeroValue5
  t9:=Tryz.underlying9
  a9:=Tryz.isAgg9
  z9:=Tryz.sizeOf9
  v9:=Tryz.zeroValue9
  t21:=Tryz.underlying21
  a21:=Tryz.isAgg21
  z21:=Tryz.sizeOf21
  v21:=Tryz.zeroValue21
  t31:=Tryz.underlying43
  a31:=Tryz.isAgg43
  z31:=Tryz.sizeOf43
  v31:=Tryz.zeroValue43
  t46:=Tryz.underlying114
  a46:=Tryz.isAgg114
  z46:=Tryz.sizeOf114
  v46:=Tryz.zeroValue114
  t51:=Tryz.underlying145
  a51:=Tryz.isAgg145
  z51:=Tryz.sizeOf145
  v51:=Tryz.zeroValue145
  t105:=Tryz.underlying133
  a105:=Tryz.isAgg133
  z105:=Tryz.sizeOf133
  v105:=Tryz.zeroValue133
  t119:=Tryz.underlying155
  a119:=Tryz.isAgg155
  z119:=Tryz.sizeOf155
  t138:=Tryz.underlying157
  a138:=Tryz.isAgg157
  z138:=Tryz.sizeOf157
  v138:=Tryz.zeroValue157
  t139:=Tryz.underlying158
  a139:=Tryz.isAgg158
  z139:=Tryz.sizeOf158
  v139:=Tryz.zeroValue158
  t146:=Tryz.underlying159
  a146:=Tryz.isAgg159
  z146:=Tryz.sizeOf159
  v146:=Tryz.zeroValue159
  g1:=by kernel_rfl
  g3:=by kernel_rfl
  g4:=by kernel_rfl }
theorem Tryz.strings_Split (s sep : ByteArray) (m : Int) (w : World) (hs : s.size < 4294967281) (hm : w.cell? ⟨0, 0, none⟩ = some (.int .i64 m)) (h1 : 1 ≤ sep.size) :
    Calls Tryz.prog 39 #[.string s,.string sep] w fun e w' =>
      e=.returned (.slice (some ⟨w.heap.size,0,none⟩) (Lib.countB s sep+1) (Lib.countB s sep+1))∧w'=w.alloc (.cells ((Lib.splitB sep 0 (Lib.countB s sep) s).map Value.string).toArray 9):=Any.strings_Split Tryz.lays146 (by kernel_rfl) s sep m w hs hm h1
def C26 (R:(List UInt8)):LV×List (Nat×BC):=(.str R,[])
def itoa (x0:Int):List UInt8:=Lib.decDigits x0.toNat
theorem zyt {w : World} (h : GH w) : Lib.TabIs Tryz.prog w "internal/strconv.uint64pow10" .u64 Lib.pow10Tab := by
 obtain ⟨_,⟨t,f,hb⟩,_⟩:=h
 unfold Lib.TabIs World.var?
 rw [show Tryz.prog.globalNamed "internal/strconv.uint64pow10" = some 1 by kernel_rfl]
 simp only [Option.bind_some,hb]
 rfl
theorem zk8 {n:Int} (h:n≤9999):(itoa n).length≤4:=by
 have two:∀ k:Nat,k<100→(Lib.decDigits k).length≤2:=fun k hk=>by
  by_cases c:k<10
  ·rw [Lib.decDigits_one c];exact Nat.le_succ 1
  ·rw [Lib.decDigits_two c hk];exact Nat.le_refl 2
 unfold itoa
 generalize hk:n.toNat=k
 have hk2:k≤9999:=by omega
 by_cases c:k<10
 ·rw [Lib.decDigits_one c];simp
 ·rw [Lib.decDigits,dif_neg c,List.length_append]
  by_cases c2:k / 10<10
  ·rw [Lib.decDigits_one c2];simp
  ·rw [Lib.decDigits,dif_neg c2,List.length_append]
   have:=two (k / 10 / 10) om
   simp only [List.length_cons,List.length_nil];omega
theorem zol (x0:Int) (h:0≤x0∧x0≤9999):FnT Tryz.prog 26 [.int .i64 x0] (C26 (itoa x0)):=by
 obtain ⟨n,rfl⟩:=Int.eq_ofNat_of_zero_le h.1
 refine Fn.of_strB z23 fun w hg=>?_
 refine (Tryz.strconv_Itoa (n:Int) om om w (zyt hg)).mono fun e w' ⟨he,k,os,hw⟩=>⟨?_,?_⟩
 ·rw [he,Lib.itoa_nonneg];rfl
 ·rw [hw];exact Lib.below_grow _ _ (Nat.le_refl _) _ _
def k26 (x0:Int):Cl:=(hres (C26 (itoa x0)),k1 (zol x0))
def zca (x0:Int):(List UInt8):=loopW (fun (v1:Int×(List UInt8)) next=>bif (decide (0<v1.1)) then (next (v1.1.tdiv 10,(List.map Lite.byteOf ([48+(v1.1.tmod 10)]:List Int))++v1.2)) else v1.2) ((x0.tdiv 10).toNat+1) (x0.tdiv 10,List.map Lite.byteOf ([48+(x0.tmod 10)]:List Int))
theorem zs7 : ∀ (m : Nat) (k : Nat) (s : List UInt8), k < m → loopW (fun (v1 : Int × (List UInt8)) next => bif (decide (0 < v1.1)) then (next (v1.1.tdiv 10, (List.map Lite.byteOf ([48 + (v1.1.tmod 10)] : List Int)) ++ v1.2)) else v1.2) m (((k : Nat) : Int), s) = (if k = 0 then [] else Lib.decDigits k) ++ s
  | 0,k,s,h=>absurd h (Nat.not_lt_zero _)
  | m+1,k,s,h=>by
    rw [loopW]
    dsimp only
    by_cases c:k=0
    · subst c;rfl
    · rw [decide_eq_true om,cond_true,if_neg c]
      have e1:((k:Nat):Int).tdiv 10=((k / 10:Nat):Int):=by rw [Int.tdiv_eq_ediv_of_nonneg om];omega
      have e2:((k:Nat):Int).tmod 10=((k % 10:Nat):Int):=by rw [Int.tmod_eq_emod_of_nonneg om];omega
      rw [e1,e2,zs7 m (k / 10) _ om]
      have e3:List.map Lite.byteOf [48+((k % 10:Nat):Int)]=[UInt8.ofNat (48+k % 10)]:=by
        have:(48+((k % 10:Nat):Int)).toNat=48+k % 10:=by omega
        simp only [List.map_cons,List.map_nil,Lite.byteOf,this]
      rw [e3]
      by_cases c1:k<10
      · have e4:k / 10=0:=by omega
        have e5:k % 10=k:=by omega
        rw [if_pos e4,e5,Lib.decDigits_one c1];rfl
      · rw [if_neg om]
        have e6:Lib.decDigits k=Lib.decDigits (k / 10)++[UInt8.ofNat (48+k % 10)]:=by rw [Lib.decDigits,dif_neg c1]
        rw [e6,List.append_assoc]
theorem ziq {n:Int} (h:0≤n):zca n=itoa n:=by
 obtain ⟨k,rfl⟩:=Int.eq_ofNat_of_zero_le h
 unfold zca itoa
 have e1:((k:Nat):Int).tdiv 10=((k / 10:Nat):Int):=by rw [Int.tdiv_eq_ediv_of_nonneg om];omega
 have e2:((k:Nat):Int).tmod 10=((k % 10:Nat):Int):=by rw [Int.tmod_eq_emod_of_nonneg om];omega
 rw [e1,e2,zs7 _ _ _ om]
 have e3:List.map Lite.byteOf [48+((k % 10:Nat):Int)]=[UInt8.ofNat (48+k % 10)]:=by
  have:(48+((k % 10:Nat):Int)).toNat=48+k % 10:=by omega
  simp only [List.map_cons,List.map_nil,Lite.byteOf,this]
 rw [e3,Int.toNat_natCast]
 by_cases c1:k<10
 ·have e4:k / 10=0:=by omega
  have e5:k % 10=k:=by omega
  rw [if_pos e4,e5,Lib.decDigits_one c1];rfl
 ·rw [if_neg om]
  have e6:Lib.decDigits k=Lib.decDigits (k / 10)++[UInt8.ofNat (48+k % 10)]:=by rw [Lib.decDigits,dif_neg c1]
  rw [e6]
def C20 (R:(List UInt8)):LV×List (Nat×BC):=(.str R,[])
def zdi (x0:Int):(List UInt8):=bif (decide (x0=1)) then [109,97,110] else [119,111,109,97,110]
def A20 (x0:Int):Ann:=r0 1 [0,2] [] (r0 1 [2,4] [] (cn (decide (x0=1)) (r0 1 [2] [] (rt [] (C20 [109,97,110]))) (r0 1 [2] [] (rt [] (C20 [119,111,109,97,110])))))
theorem zos (x0:Int):FnT Tryz.prog 20 [.int .i64 x0] (C20 (zdi x0)):=by
 have aux:∀ R,zdi x0=R→slim (C20 R) (A20 x0) []:=by
  intro R hR
  refine rg trivial ?_
  refine rg trivial ?_
  revert hR;refine cd (fun hc1 hR=>?_) fun hc1 hR=>?_
  ·
    refine rg trivial ?_
    exact congrArg C20 hR
  ·
    refine rg trivial ?_
    exact congrArg C20 hR
 exact Fn.go 5 Tryz.func20 (by kernel_rfl) (by kernel_rfl) (by simp [C20,Frs,FrsL]) (A20 x0) (by kernel_rfl) (aux _ rfl)
def k20 (x0:Int):Cl:=(hres (C20 (zdi x0)),k0 (zos x0))
def C21 (R:(List UInt8)):LV×List (Nat×BC):=(.str R,[])
def zbr (x0:yc) (x1:Int):(List UInt8):=bif (decide (x1<0)) then [45] else ((x0.people.getD x1.toNat default).name)
def A21 (x0:yc) (x1:Int):Ann:=r0 1 [1,2,4] [2] (r0 1 [1,2,4,6] [2] (cn (decide (x1<0)) (r0 1 [1,2,4] [2] (rt [] (C21 [45]))) (r1 1 [4] [] [pf (0≤(x1:Int)∧(x1:Int)<((x0.people.length:Nat):Int))] [0] (rt [] (C21 ((x0.people.getD x1.toNat default).name))))))
theorem zm9 (x0:yc) (x1:Int) (hi:x1<x0.people.length):FnT Tryz.prog 21 [.agg (zcf false x0),.int .i64 x1] (C21 (zbr x0 x1)):=by
 have aux:∀ R,zbr x0 x1=R→slim (C21 R) (A21 x0 x1) []:=by
  intro R hR
  refine rg trivial ?_
  refine rg trivial ?_
  revert hR;refine cd (fun hc1 hR=>?_) fun hc1 hR=>?_
  ·
    refine rg trivial ?_
    exact congrArg C21 hR
  ·
    refine rg ⟨by ((try clear hR);intros;(try simp only [decide_eq_true_eq,decide_eq_false_iff_not,Bool.or_eq_true,Bool.and_eq_true,zbd,zbb,zbc,Bool.not_eq_true',inR] at *);(repeat' apply And.intro)<;>(intros;omega)),trivial⟩ ?_
    exact congrArg C21 hR
 exact Fn.go 13 Tryz.func21 (by kernel_rfl) (by kernel_rfl) (by simp [C21,Frs,FrsL]) (A21 x0 x1) (by kernel_rfl) (aux _ rfl)
def k21 (x0:yc) (x1:Int):Cl:=(hres (C21 (zbr x0 x1)),k1 (zm9 x0 x1))
def zbl (x0:yc) (x1:Int):(List UInt8):=bif (decide (x1<0)) then [45] else ((x0.people.getD x1.toNat default).name)
def Tryz.lw166_ren:Go.Shelf.Ren:=⟨fun | 166=>18 | 240=>49 | 276=>66 | n=>n,fun | 0=>0 | 3=>3 | 4=>4 | 5=>5 | 9=>9 | 20=>20 | 37=>22 | 70=>49 | 72=>51 | 75=>55 | 80=>63 | 164=>101 | n=>n,fun | n=>n⟩
theorem Tryz.lw166 : Go.Proofs.Lays.n166 Tryz.prog Tryz.lw166_ren := {
  mixed:=by kernel_rfl
  f166:=Tryz.func18.trans (congrArg some (by kernel_rfl))
  f240:=Tryz.func49.trans (congrArg some (by kernel_rfl))
  f276:=Tryz.func66.trans (congrArg some (by kernel_rfl))
  t0:=Tryz.underlying0
  a0:=Tryz.isAgg0
  z0:=Tryz.sizeOf0
  v0:=Tryz.zeroValue0
  t3:=Tryz.underlying3
  a3:=Tryz.isAgg3
  z3:=Tryz.sizeOf3
  v3:=Tryz.zeroValue3
  t4:=Tryz.underlying4
  a4:=Tryz.isAgg4
  z4:=Tryz.sizeOf4
  v4:=Tryz.zeroValue4
  t9:=Tryz.underlying9
  a9:=Tryz.isAgg9
  z9:=Tryz.sizeOf9
  v9:=Tryz.zeroValue9
  t20:=Tryz.underlying20
  a20:=Tryz.isAgg20
  z20:=Tryz.sizeOf20
  v20:=Tryz.zeroValue20
  t37:=Tryz.underlying22
  a37:=Tryz.isAgg22
  z37:=Tryz.sizeOf22
  v37:=Tryz.zeroValue22
  t70:=Tryz.underlying49
  a70:=Tryz.isAgg49
  z70:=Tryz.sizeOf49
  v70:=Tryz.zeroValue49
  t72:=Tryz.underlying51
  a72:=Tryz.isAgg51
  z72:=Tryz.sizeOf51
  v72:=Tryz.zeroValue51
  t75:=Tryz.underlying55
  a75:=Tryz.isAgg55
  z75:=Tryz.sizeOf55
  v75:=Tryz.zeroValue55
  t164:=Tryz.underlying101
  a164:=Tryz.isAgg101
  z164:=Tryz.sizeOf101
  v164:=Tryz.zeroValue101 }
theorem Tryz.xw166 : Go.Proofs.Builder.Extra Tryz.prog Tryz.lw166_ren := {
  sizeBuilder:=by kernel_rfl
  liesBuilder:=by kernel_rfl
  t5:=Tryz.underlying5
  a5:=Tryz.isAgg5
  z5:=Tryz.sizeOf5
  v5:=Tryz.zeroValue5
  infoByte:=by kernel_rfl
  cellsByte:=by kernel_rfl
  sizeByte:=by kernel_rfl
  neB5:=by decide }
def Tryz.lw169_ren:Go.Shelf.Ren:=⟨fun | 169=>23 | n=>n,fun | 0=>0 | 3=>3 | 5=>5 | 9=>9 | 37=>22 | 70=>49 | 72=>51 | 127=>91 | n=>n,fun | n=>n⟩
theorem Tryz.lw169 : Go.Proofs.Lays.n169 Tryz.prog Tryz.lw169_ren := {
  mixed:=by kernel_rfl
  f169:=Tryz.func23.trans (congrArg some (by kernel_rfl))
  t0:=Tryz.underlying0
  a0:=Tryz.isAgg0
  z0:=Tryz.sizeOf0
  v0:=Tryz.zeroValue0
  t3:=Tryz.underlying3
  a3:=Tryz.isAgg3
  z3:=Tryz.sizeOf3
  v3:=Tryz.zeroValue3
  t9:=Tryz.underlying9
  a9:=Tryz.isAgg9
  z9:=Tryz.sizeOf9
  v9:=Tryz.zeroValue9
  t37:=Tryz.underlying22
  a37:=Tryz.isAgg22
  z37:=Tryz.sizeOf22
  v37:=Tryz.zeroValue22
  t70:=Tryz.underlying49
  a70:=Tryz.isAgg49
  z70:=Tryz.sizeOf49
  v70:=Tryz.zeroValue49
  t72:=Tryz.underlying51
  a72:=Tryz.isAgg51
  z72:=Tryz.sizeOf51
  v72:=Tryz.zeroValue51
  t127:=Tryz.underlying91
  a127:=Tryz.isAgg91
  z127:=Tryz.sizeOf91
  v127:=Tryz.zeroValue91 }
theorem Tryz.xw169 : Go.Proofs.Builder.Extra Tryz.prog Tryz.lw169_ren := {
  sizeBuilder:=by kernel_rfl
  liesBuilder:=by kernel_rfl
  t5:=Tryz.underlying5
  a5:=Tryz.isAgg5
  z5:=Tryz.sizeOf5
  v5:=Tryz.zeroValue5
  infoByte:=by kernel_rfl
  cellsByte:=by kernel_rfl
  sizeByte:=by kernel_rfl
  neB5:=by decide }
theorem ok_bw (s0 s:List UInt8) (h:s0.length+s.length≤140737488355328):FnMT Tryz.prog 18 [.vp 900000 0,.str s] [.bld 51 5 s0] (.tup [.int .i64 s.length,.er false],[(900000,.bld 51 5 (s0++s))]) :=
 FnM.bldWrite fun w B b v p hb hB=>z0v Tryz.lw166 Tryz.xw166 hb h hB
def kbw (d:Nat) (ids:List Nat) (s0 s:List UInt8):Cl:=(hresM d ids (.tup [.int .i64 s.length,.er false],[(900000,.bld 51 5 (s0++s))]),Go.Lite.k1 (ok_bw s0 s))
theorem ok_bs (s:List UInt8):FnMT Tryz.prog 23 [.vp 900000 0] [.bld 51 5 s] (.str s,[]) :=
 FnM.bldString fun w B b v p hb hB=>zyg Tryz.lw169 Tryz.xw169 hb hB
def kbs (d:Nat) (ids:List Nat) (s:List UInt8):Cl:=(hresM d ids (.str s,[]),Go.Lite.k0 (ok_bs s))
theorem zqm {y:Int} (h:0≤y∧y≤9999):(zca y).length≤4:=by rw [ziq h.1];exact zk8 h.2
structure Grow (p p':List ya) (u u':List yb):Prop where
 pn:p.length≤p'.length
 un:u.length≤u'.length
 pk:∀ j,j<p.length→(p'.getD j default).name=(p.getD j default).name∧(p'.getD j default).sex=(p.getD j default).sex∧(p'.getD j default).father=(p.getD j default).father∧(p'.getD j default).mother=(p.getD j default).mother∧(p'.getD j default).born=(p.getD j default).born∧((p.getD j default).died=-1∨(p'.getD j default).died=(p.getD j default).died)
 uk:∀ j,j<u.length→(u'.getD j default).man=(u.getD j default).man∧(u'.getD j default).woman=(u.getD j default).woman∧(u'.getD j default).from0=(u.getD j default).from0∧((u.getD j default).to=-1∨(u'.getD j default).to=(u.getD j default).to)
theorem Grow.rf (p:List ya) (u:List yb):Grow p p u u:=⟨Nat.le_refl _,Nat.le_refl _,fun _ _=>⟨rfl,rfl,rfl,rfl,rfl,.inr rfl⟩,fun _ _=>⟨rfl,rfl,rfl,.inr rfl⟩⟩
inductive Kept (p:List ya) (u:List yb) (e:yd):Prop where
 | birth (h:e.kind=1) (j:Nat) (hj:j<p.length) (h1:(p.getD j default).name=e.name) (h2:(p.getD j default).sex=e.sex) (h3:(p.getD j default).father=e.a) (h4:(p.getD j default).mother=e.b) (h5:(p.getD j default).born=e.year)
 | union (h:e.kind=2) (hz:e.name=[]∧e.sex=0) (j:Nat) (hj:j<u.length) (h1:(u.getD j default).man=e.a) (h2:(u.getD j default).woman=e.b) (h3:(u.getD j default).from0=e.year)
 | parting (h:e.kind=3) (hz:e.name=[]∧e.sex=0) (j:Nat) (hj:j<u.length) (h1:(u.getD j default).man=e.a) (h2:(u.getD j default).woman=e.b) (h3:(u.getD j default).to=e.year)
 | death (h:e.kind=4) (hz:e.name=[]∧e.sex=0∧e.b=0) (ha:0≤e.a∧e.a<p.length) (h1:(p.getD e.a.toNat default).died=e.year)
theorem Kept.grow {p p':List ya} {u u':List yb} {e:yd} (h:Kept p u e) (hy:0≤e.year) (g:Grow p p' u u'):Kept p' u' e:=by
 cases h with
 | birth h j hj h1 h2 h3 h4 h5 =>
  obtain ⟨g1,g2,g3,g4,g5,_⟩:=g.pk j hj
  exact .birth h j (Nat.lt_of_lt_of_le hj g.pn) (g1.trans h1) (g2.trans h2) (g3.trans h3) (g4.trans h4) (g5.trans h5)
 | union h hz j hj h1 h2 h3 =>
  obtain ⟨g1,g2,g3,_⟩:=g.uk j hj
  exact .union h hz j (Nat.lt_of_lt_of_le hj g.un) (g1.trans h1) (g2.trans h2) (g3.trans h3)
 | parting h hz j hj h1 h2 h3 =>
  obtain ⟨g1,g2,_,g4⟩:=g.uk j hj
  exact .parting h hz j (Nat.lt_of_lt_of_le hj g.un) (g1.trans h1) (g2.trans h2) (by rcases g4 with g4 | g4<;>omega)
 | death h hz ha h1 =>
  have hl:e.a.toNat<p.length:=by omega
  obtain ⟨_,_,_,_,_,g6⟩:=g.pk _ hl
  exact .death h hz ⟨ha.1,by have:=g.pn;omega⟩ (by rcases g6 with g6 | g6<;>omega)
theorem zrz (x:yc) (a b:Int) (h:¬ zcn x a b<0):(zcn x a b).toNat<x.unions.length∧(x.unions.getD (zcn x a b).toNat default).man=a∧(x.unions.getD (zcn x a b).toNat default).woman=b:=by
 revert h
 unfold zcn
 refine zbx (fun _ _=>True) (fun (r:Int)=>¬ r<0→r.toNat<x.unions.length∧(x.unions.getD r.toNat default).man=a∧(x.unions.getD r.toNat default).woman=b) trivial (fun i v next hi _ hn=>?_) (fun v _ h=>absurd om h)
 refine zbe (p:=fun (r:Int)=>¬ r<0→r.toNat<x.unions.length∧(x.unions.getD r.toNat default).man=a∧(x.unions.getD r.toNat default).woman=b) (fun c _=>?_) (fun _=>hn _ trivial)
 simp only [Bool.and_eq_true,decide_eq_true_eq] at c
 rw [Int.toNat_natCast]
 exact ⟨hi,c⟩
theorem z5b (x:yc) (e:yd) (h:(l11Do x e).2=true):Grow x.people (l11Do x e).1.people x.unions (l11Do x e).1.unions∧Kept (l11Do x e).1.people (l11Do x e).1.unions e:=by
 revert h
 unfold l11Do
 have Q:∀ {c:Bool} {a b:yc×Bool},(c=true→a.2=true→Grow x.people a.1.people x.unions a.1.unions∧Kept a.1.people a.1.unions e)→(c=false→b.2=true→Grow x.people b.1.people x.unions b.1.unions∧Kept b.1.people b.1.unions e)→(bif c then a else b).2=true→Grow x.people (bif c then a else b).1.people x.unions (bif c then a else b).1.unions∧Kept (bif c then a else b).1.people (bif c then a else b).1.unions e:=fun h1 h2=>zbe (p:=fun (r:yc×Bool)=>r.2=true→Grow x.people r.1.people x.unions r.1.unions∧Kept r.1.people r.1.unions e) h1 h2
 have ne:∀ {d:Bool},d=false→((!d)&&(((!(e.name==([]:List UInt8)))||(!decide (e.sex=0)))||(!(l1In e.a 0 (((x.people.length:Nat):Int) - 1)))))=false→(e.name=[]∧e.sex=0)∧0≤e.a∧e.a<x.people.length:=fun {d} hd hc=>by
  subst hd
  simp only [Bool.not_false,Bool.true_and,zbd,zbb,l1In,Bool.and_eq_true,decide_eq_true_eq,beq_iff_eq] at hc
  exact ⟨hc.1,om⟩
 refine Q (fun _ h=>nomatch h) (fun c1=>Q (fun c2 _=>?_) (fun c2=>Q (fun c3 h=>?_) (fun c3=>Q (fun c4=>Q (fun _ h=>nomatch h) (fun c5 _=>?_)) (fun c4=>Q (fun c5=>Q (fun _ h=>nomatch h) (fun c6 _=>?_)) (fun _ h=>nomatch h)))))
 ·simp only [decide_eq_true_eq] at c2
  refine ⟨⟨by simp,Nat.le_refl _,fun j hj=>?_,fun j hj=>⟨rfl,rfl,rfl,.inr rfl⟩⟩,.birth c2 x.people.length zas ?_ ?_ ?_ ?_ ?_⟩
  ·simp only [zc5 hj,and_self,or_true]
  all_goals simp only [zf7 rfl]
 ·obtain ⟨hz,ha⟩:=ne c2 c1
  simp only [decide_eq_true_eq] at c3
  refine ⟨⟨Nat.le_refl _,by simp,fun j hj=>⟨rfl,rfl,rfl,rfl,rfl,.inr rfl⟩,fun j hj=>?_⟩,.union c3 hz x.unions.length zas ?_ ?_ ?_⟩
  ·simp only [zc5 hj,and_self,or_true]
  all_goals simp only [zf7 rfl]
 ·obtain ⟨hz,ha⟩:=ne c2 c1
  simp only [decide_eq_true_eq] at c4
  simp only [zbd,decide_eq_false_iff_not,zbb,decide_eq_true_eq] at c5
  obtain ⟨h1,h2,h3⟩:=zrz x e.a e.b c5.1
  refine ⟨⟨Nat.le_refl _,by simp,fun j hj=>⟨rfl,rfl,rfl,rfl,rfl,.inr rfl⟩,fun j hj=>?_⟩,.parting c4 hz (zcn x e.a e.b).toNat (by simpa using h1) ?_ ?_ ?_⟩
  ·simp only [zco]
   split
   ·rename_i hh;obtain ⟨rfl,_⟩:=hh;exact ⟨rfl,rfl,rfl,.inl c5.2⟩
   ·exact ⟨rfl,rfl,rfl,.inr rfl⟩
  ·simp only [zco,h1,and_self,if_true];exact h2
  ·simp only [zco,h1,and_self,if_true];exact h3
  ·simp only [zco,h1,and_self,if_true]
 ·obtain ⟨hz,ha⟩:=ne c2 c1
  simp only [decide_eq_true_eq] at c5
  simp only [zbd,zbb,decide_eq_true_eq] at c6
  have hl:e.a.toNat<x.people.length:=by omega
  refine ⟨⟨by simp,Nat.le_refl _,fun j hj=>?_,fun j hj=>⟨rfl,rfl,rfl,.inr rfl⟩⟩,.death c5 ⟨hz.1,hz.2,c6.1⟩ (by simp only [List.length_set];exact ha) ?_⟩
  ·simp only [zco]
   split
   ·rename_i hh;obtain ⟨rfl,_⟩:=hh;exact ⟨rfl,rfl,rfl,rfl,rfl,.inl c6.2⟩
   ·exact ⟨rfl,rfl,rfl,rfl,rfl,.inr rfl⟩
  ·simp only [zco,hl,and_self,if_true]
theorem zra (x:List yd) (hb:(zbh x).2=true):za9 (zbh x).1=true∧∀ j,j<x.length→0≤(x.getD j default).year∧Kept (zbh x).1.people (zbh x).1.unions (x.getD j default):=by
 revert hb
 unfold zbh
 refine zbx (fun i (v:List ya×List yb)=>(i=0→v=([],[]))∧(0<i→v.1≠[]∧((v.1.getD 0 default).born<0∨∀ j,j<i→(0≤(x.getD j default).year∧(x.getD j default).year≤(x.getD (i - 1) default).year)∧Kept v.1 v.2 (x.getD j default)))) (fun (r:yc×Bool)=>r.2=true→za9 r.1=true∧∀ j,j<x.length→0≤(x.getD j default).year∧Kept r.1.people r.1.unions (x.getD j default)) ⟨fun _=>rfl,fun h=>absurd h om⟩ (fun i v next hi hv hnx=>?_) (fun v hv=>?_)
 ·obtain ⟨v1,v2⟩:=v
  refine zbe (p:=fun (r:yc×Bool)=>r.2=true→za9 r.1=true∧∀ j,j<x.length→0≤(x.getD j default).year∧Kept r.1.people r.1.unions (x.getD j default)) (fun _ h=>nomatch h) (fun c1=>zbe (p:=fun (r:yc×Bool)=>r.2=true→za9 r.1=true∧∀ j,j<x.length→0≤(x.getD j default).year∧Kept r.1.people r.1.unions (x.getD j default)) (fun _ h=>nomatch h) (fun c2=>hnx _ ⟨fun h=>absurd h om,fun _=>?_⟩))
  have c2:(l11Do (yc.mk v1 v2) (x.getD i default)).2=true:=by simpa using c2
  obtain ⟨f1,f2,f3⟩:=zwu _ _ c2
  obtain ⟨k1,k2⟩:=z5b _ _ c2
  refine ⟨f1,?_⟩
  rw [show i+1 - 1=i by omega]
  by_cases h0:i=0
  ·have e:=hv.1 h0
   simp only [Prod.mk.injEq] at e
   by_cases hy:0≤(x.getD i default).year
   ·exact .inr fun j hj=>by
     have:j=i:=by omega
     subst this
     exact ⟨⟨hy,Int.le_refl _⟩,k2⟩
   ·exact .inl (by rw [f3 e.1];omega)
  ·obtain ⟨g1,g2⟩:=hv.2 om
   rcases g2 with g2 | g2
   ·exact .inl (by rw [f2 g1];exact g2)
   ·have hm:=g2 (i - 1) om
    have hy:(x.getD (i - 1) default).year≤(x.getD i default).year:=by
     simp only [Bool.and_eq_false_imp,decide_eq_true_eq,decide_eq_false_iff_not] at c1
     have:=c1 om
     rw [show ((i:Nat):Int) - 1=((i - 1:Nat):Int) by omega,Int.toNat_natCast] at this
     omega
    refine .inr fun j hj=>?_
    by_cases hji:j=i
    ·subst hji;exact ⟨⟨Int.le_trans hm.1.1 hy,Int.le_refl _⟩,k2⟩
    ·have:=g2 j om
     exact ⟨⟨this.1.1,Int.le_trans this.1.2 hy⟩,this.2.grow this.1.1 k1⟩
 ·obtain ⟨v1,v2⟩:=v
  refine zbe (p:=fun (r:yc×Bool)=>r.2=true→za9 r.1=true∧∀ j,j<x.length→0≤(x.getD j default).year∧Kept r.1.people r.1.unions (x.getD j default)) (fun _ h=>nomatch h) (fun c _=>?_)
  have hf:za9 (yc.mk v1 v2)=true:=by simpa using c
  refine ⟨hf,fun j hj=>?_⟩
  obtain ⟨g1,g2⟩:=hv.2 om
  have hp:=fam_p hf (k:=0) (by simp only;cases v1<;>simp_all)
  rcases g2 with g2 | g2
  ·have:=hp.born;simp only at this g2;omega
  ·exact ⟨(g2 j hj).1.1,(g2 j hj).2⟩
theorem znk {s:List UInt8} (h:zcp s=true):s.length≤12:=by
 unfold zcp at h
 rw [zeo] at h
 simp only [l1In,Bool.and_eq_true,decide_eq_true_eq] at h
 omega
structure Sane (f:yc) (e:yd):Prop where
 year:0≤e.year∧e.year≤9999
 a:-1≤e.a∧e.a<f.people.length
 b:-1≤e.b∧e.b<f.people.length
 kind:1≤e.kind∧e.kind≤4
 sex:e.kind=1→1≤e.sex∧e.sex≤2
 name:e.name.length≤12
 names:∀ i:Int,(f.people.getD i.toNat default).name.length≤12
theorem zq9 {x:List yd} (hb:(zbh x).2=true) {i:Nat} (hi:i<x.length):Sane (zbh x).1 (x.getD i default):=by
 obtain ⟨hf,hk⟩:=zra x hb
 obtain ⟨hy,hk⟩:=hk i hi
 have nm:∀ j,((zbh x).1.people.getD j default).name.length≤12:=fun j=>by
  by_cases c:j<(zbh x).1.people.length
  ·exact znk (fam_p hf c).name
  ·rw [List.getD_eq_getElem?_getD,List.getElem?_eq_none om];exact Nat.zero_le _
 revert hk hf nm
 generalize (zbh x).1=f
 intro hf hk nm
 cases hk with
 | birth h j hj h1 h2 h3 h4 h5 =>
  have p:=fam_p hf hj
  have a1:=p.sex;have a2:=p.born;have a3:=p.fa;have a4:=p.mo
  rw [h2] at a1;rw [h5] at a2;rw [h3] at a3;rw [h4] at a4
  exact ⟨a2,om,om,om,fun _=>a1,by rw [← h1];exact nm j,fun i=>nm _⟩
 | union h hz j hj h1 h2 h3 =>
  have p:=fam_u hf hj
  have a1:=p.man;have a2:=p.woman;have a3:=p.from0
  rw [h1] at a1;rw [h2] at a2;rw [h3] at a3
  exact ⟨om,om,om,om,fun h'=>by omega,by rw [hz.1];exact Nat.zero_le _,fun i=>nm _⟩
 | parting h hz j hj h1 h2 h3 =>
  have p:=fam_u hf hj
  have a1:=p.man;have a2:=p.woman;have a3:=p.to
  rw [h1] at a1;rw [h2] at a2;rw [h3] at a3
  exact ⟨om,om,om,om,fun h'=>by omega,by rw [hz.1];exact Nat.zero_le _,fun i=>nm _⟩
 | death h hz ha h1 =>
  have hl:(x.getD i default).a.toNat<f.people.length:=by omega
  have p:=fam_p hf hl
  have a3:=p.died
  rw [h1] at a3
  exact ⟨om,om,om,om,fun h'=>by omega,by rw [hz.1];exact Nat.zero_le _,fun i=>nm _⟩
theorem zl5 {f:yc} {e:yd} (h:Sane f e) (i:Int):(zbl f i).length≤12:=by
 unfold zbl
 exact zbe (p:=fun (r:List UInt8)=>r.length≤12) (fun _=>by simp) (fun _=>h.names i)
theorem zmo {f:yc} {e:yd} (h:Sane f e) (i:Int):(zbr f i).length≤12:=zl5 h i
theorem zn5 (i:Int):(zdi i).length≤5:=by unfold zdi;exact zbe (p:=fun (r:List UInt8)=>r.length≤5) (fun _=>by simp) (fun _=>by simp)
theorem ev_sz {x : List yd} (hb : (!((zbh x).2)) = false) {i : Nat} (hi : i < x.length) : Sane (zbh x).1 (x.getD i default) ∧ (zca (x.getD i default).year).length ≤ 4 ∧ (itoa (x.getD i default).year).length ≤ 4 ∧
    (zbl (zbh x).1 (x.getD i default).a).length≤12∧(zbl (zbh x).1 (x.getD i default).b).length≤12∧(zbr (zbh x).1 (x.getD i default).a).length≤12∧(zbr (zbh x).1 (x.getD i default).b).length≤12∧(zdi (x.getD i default).sex).length≤5:=by
 have h:=zq9 (by simpa using hb) hi
 exact ⟨h,zqm h.year,zk8 h.year.2,zl5 h _,zl5 h _,zmo h _,zmo h _,zn5 _⟩
theorem zc9 {x : List yd} (hb : (!((zbz x).2)) = false) {i : Nat} (hi : i < x.length) : Sane (zbz x).1 (x.getD i default) ∧ (itoa (x.getD i default).year).length ≤ 4 ∧
    (zbr (zbz x).1 (x.getD i default).a).length≤12∧(zbr (zbz x).1 (x.getD i default).b).length≤12∧(zdi (x.getD i default).sex).length≤5:=by
 rw [znt] at hb ⊢
 obtain ⟨h,_,h1,_,_,h2,h3,h4⟩:=ev_sz hb hi
 exact ⟨h,h1,h2,h3,h4⟩
def zfm (x0:List yd):(List UInt8):=bif (!((zbh x0).2)) then ([]:List UInt8) else (loopN (fun i1 (v1:(List UInt8)) next=>bif (decide (((x0.getD i1 default).kind)=1)) then (bif (decide (((x0.getD i1 default).sex)=2)) then (next ((v1++(((((((zca ((x0.getD i1 default).year))++[32,98,111,114,110,32])++((x0.getD i1 default).name))++[32,119,111,109,97,110,32])++(zbl ((zbh x0).1) ((x0.getD i1 default).a)))++[32])++(zbl ((zbh x0).1) ((x0.getD i1 default).b))))++[10])) else (next ((v1++(((((((zca ((x0.getD i1 default).year))++[32,98,111,114,110,32])++((x0.getD i1 default).name))++[32,109,97,110,32])++(zbl ((zbh x0).1) ((x0.getD i1 default).a)))++[32])++(zbl ((zbh x0).1) ((x0.getD i1 default).b))))++[10]))) else (bif (decide (((x0.getD i1 default).kind)=2)) then (next ((v1++(((((zca ((x0.getD i1 default).year))++[32,117,110,105,111,110,32])++(zbl ((zbh x0).1) ((x0.getD i1 default).a)))++[32])++(zbl ((zbh x0).1) ((x0.getD i1 default).b))))++[10])) else (bif (decide (((x0.getD i1 default).kind)=3)) then (next ((v1++(((((zca ((x0.getD i1 default).year))++[32,112,97,114,116,101,100,32])++(zbl ((zbh x0).1) ((x0.getD i1 default).a)))++[32])++(zbl ((zbh x0).1) ((x0.getD i1 default).b))))++[10])) else (next ((v1++(((zca ((x0.getD i1 default).year))++[32,100,105,101,100,32])++(zbl ((zbh x0).1) ((x0.getD i1 default).a))))++[10]))))) (fun (v1:(List UInt8))=>v1) x0.length 0 ([]:List UInt8))
end Go.Proofs.YtlinnkjieghmhaaGreatDoor
