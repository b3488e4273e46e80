/- Part 36 of the proof of skewer.skewerlaw15.TableSlices. -/
import Derived.Test.YtnaefnajkaohgaaGreatDoorC34
import Derived.Test.YtnaefnajkaohgaaGreatDoorProg
import Derived.Test.YtnaefnajkaohgaaGreatDoorC05
set_option linter.all false
namespace Go.Proofs.YtnaefnajkaohgaaGreatDoor
open Go Go.AL
theorem ok183:OK 183 F183:=fk Tryz.func183
theorem ok184:OK 184 F184:=fk Tryz.func184
theorem ok185:OK 185 F185:=fk Tryz.func185
theorem ok186:OK 186 F186:=fk Tryz.func186
theorem ok187:OK 187 F187:=fk Tryz.func187
theorem ok188:OK 188 F188:=fk Tryz.func188
theorem ok189:OK 189 F189:=fk Tryz.func189
theorem ok190:OK 190 F190:=fk Tryz.func190
theorem ok191:OK 191 F191:=fk Tryz.func191
theorem ok192:OK 192 F192:=fk Tryz.func192
theorem ok193:OK 193 F193:=fk Tryz.func193
theorem ok194:OK 194 F194:=fk Tryz.func194
theorem ok195:OK 195 F195:=fk Tryz.func195
theorem ok197:OK 197 F197:=fk Tryz.func197
theorem ok198:OK 198 F198:=fk Tryz.func198
theorem ok199:OK 199 F199:=fk Tryz.func199
theorem ok200:OK 200 F200:=fk Tryz.func200
theorem ok201:OK 201 F201:=fk Tryz.func201
theorem ok202:OK 202 F202:=fk Tryz.func202
theorem ok203:OK 203 F203:=fk Tryz.func203
theorem ok204:OK 204 F204:=fk Tryz.func204
theorem ok205:OK 205 F205:=fk Tryz.func205
theorem ok206:OK 206 F206:=fk Tryz.func206
theorem ok207:OK 207 F207:=fk Tryz.func207
theorem ok208:OK 208 F208:=fk Tryz.func208
theorem ok209:OK 209 F209:=fk Tryz.func209
theorem ok210:OK 210 F210:=fk Tryz.func210
theorem ok211:OK 211 F211:=fk Tryz.func211
theorem ok224:OK 224 F224:=fk Tryz.func224
theorem ok225:OK 225 F225:=fk Tryz.func225
theorem ok226:OK 226 F226:=fk Tryz.func226
theorem ok227:OK 227 F227:=fk Tryz.func227
theorem ok228:OK 228 F228:=fk Tryz.func228
theorem ok229:OK 229 F229:=fk Tryz.func229
theorem ok231:OK 231 F231:=fk Tryz.func231
theorem ok237:OK 237 F237:=fk Tryz.func237
theorem ok240:OK 240 F240:=fk Tryz.func240
theorem ok241:OK 241 F241:=fk Tryz.func241
theorem ok242:OK 242 F242:=fk Tryz.func242
theorem ok243:OK 243 F243:=fk Tryz.func243
theorem ok244:OK 244 F244:=fk Tryz.func244
theorem ok245:OK 245 F245:=fk Tryz.func245
theorem ok250:OK 250 F250:=fk Tryz.func250
theorem ok251:OK 251 F251:=fk Tryz.func251
theorem ok252:OK 252 F252:=fk Tryz.func252
theorem ok253:OK 253 F253:=fk Tryz.func253
theorem ok254:OK 254 F254:=fk Tryz.func254
theorem ok255:OK 255 F255:=fk Tryz.func255
theorem ok259:OK 259 F259:=fk Tryz.func259
theorem ok260:OK 260 F260:=fk Tryz.func260
theorem ok261:OK 261 F261:=fk Tryz.func261
theorem ok263:OK 263 F263:=fk Tryz.func263
theorem ok265:OK 265 F265:=fk Tryz.func265
theorem ok266:OK 266 F266:=fk Tryz.func266
theorem ok267:OK 267 F267:=fk Tryz.func267
theorem ok294:OK 294 F294:=fk Tryz.func294
theorem ok295:OK 295 F295:=fk Tryz.func295
theorem ok296:OK 296 F296:=fk Tryz.func296
theorem ok297:OK 297 F297:=fk Tryz.func297
theorem rok1664:RoundOK Tryz.prog (gl Tryz.prog) 1664 R1664:=roundOK_of (N:=48) (ps:=roundPs Tryz.prog 1664) (ac:=roundA Tryz.prog 1664) (bc:=roundB Tryz.prog 1664) [] [[]] (by kernel_rfl) (by kernel_rfl) (by kernel_rfl) ⟨by kernel_rfl,by kernel_rfl⟩ (by kernel_rfl) (by kernel_rfl)
theorem rok4992:RoundOK Tryz.prog (gl Tryz.prog) 4992 R4992:=roundOK_of (N:=127) (ps:=roundPs Tryz.prog 4992) (ac:=roundA Tryz.prog 4992) (bc:=roundB Tryz.prog 4992) [] [[],[3,11],[3,10,11,46,47,48],[3,10,11,46,47,48],[],[3,75],[3,75]] (by kernel_rfl) (by kernel_rfl) (by kernel_rfl) ⟨by kernel_rfl,by kernel_rfl⟩ (by kernel_rfl) (by kernel_rfl)
theorem rok12608:RoundOK Tryz.prog (gl Tryz.prog) 12608 R12608:=roundOK_of (N:=13) (ps:=roundPs Tryz.prog 12608) (ac:=roundA Tryz.prog 12608) (bc:=roundB Tryz.prog 12608) [] [[]] (by kernel_rfl) (by kernel_rfl) (by kernel_rfl) ⟨by kernel_rfl,by kernel_rfl⟩ (by kernel_rfl) (by kernel_rfl)
theorem rok15488:RoundOK Tryz.prog (gl Tryz.prog) 15488 R15488:=roundOK_of (N:=30) (ps:=roundPs Tryz.prog 15488) (ac:=roundA Tryz.prog 15488) (bc:=roundB Tryz.prog 15488) [] [[]] (by kernel_rfl) (by kernel_rfl) (by kernel_rfl) ⟨by kernel_rfl,by kernel_rfl⟩ (by kernel_rfl) (by kernel_rfl)
end Go.Proofs.YtnaefnajkaohgaaGreatDoor
namespace Go.Proofs.YtnaefnajkaohgaaGreatDoor
open Go Go.AL Go.Proofs Go.Shelf
def sort87_ren:Go.Shelf.Ren:=⟨fun|6=>87|15=>128|14=>127|28=>175|29=>176|20=>167|21=>168|22=>169|23=>170|24=>171|25=>172|26=>173|27=>174|46=>219|47=>220|48=>221|49=>222|50=>223|57=>249|n=>n,fun|22=>45|24=>44|25=>115|3=>3|39=>210|0=>0|53=>255|55=>257|4=>4|46=>249|45=>248|50=>107|5=>5|9=>9|66=>296|70=>300|76=>320|77=>162|n=>n,fun|n=>n⟩
theorem sort87:Go.Proofs.SlLaysF0.n6 Tryz.prog sort87_ren:={
 mixed:=by kernel_rfl
 f6:=⟨Tryz.f87.name,by decide,Tryz.func87.trans (congrArg some (by kernel_rfl))⟩
 f14:=⟨Tryz.f127.name,by decide,Tryz.func127.trans (congrArg some (by kernel_rfl))⟩
 f15:=Tryz.func128.trans (congrArg some (by kernel_rfl))
 f20:=⟨Tryz.f167.name,by decide,Tryz.func167.trans (congrArg some (by kernel_rfl))⟩
 f21:=⟨Tryz.f168.name,by decide,Tryz.func168.trans (congrArg some (by kernel_rfl))⟩
 f22:=⟨Tryz.f169.name,by decide,Tryz.func169.trans (congrArg some (by kernel_rfl))⟩
 f23:=⟨Tryz.f170.name,by decide,Tryz.func170.trans (congrArg some (by kernel_rfl))⟩
 f24:=⟨Tryz.f171.name,by decide,Tryz.func171.trans (congrArg some (by kernel_rfl))⟩
 f25:=⟨Tryz.f172.name,by decide,Tryz.func172.trans (congrArg some (by kernel_rfl))⟩
 f26:=⟨Tryz.f173.name,by decide,Tryz.func173.trans (congrArg some (by kernel_rfl))⟩
 f27:=⟨Tryz.f174.name,by decide,Tryz.func174.trans (congrArg some (by kernel_rfl))⟩
 f28:=Tryz.func175.trans (congrArg some (by kernel_rfl))
 f29:=Tryz.func176.trans (congrArg some (by kernel_rfl))
 f46:=⟨Tryz.f219.name,by decide,Tryz.func219.trans (congrArg some (by kernel_rfl))⟩
 f47:=Tryz.func220.trans (congrArg some (by kernel_rfl))
 f48:=Tryz.func221.trans (congrArg some (by kernel_rfl))
 f49:=⟨Tryz.f222.name,by decide,Tryz.func222.trans (congrArg some (by kernel_rfl))⟩
 f50:=⟨Tryz.f223.name,by decide,Tryz.func223.trans (congrArg some (by kernel_rfl))⟩
 f57:=⟨Tryz.f249.name,by decide,Tryz.func249.trans (congrArg some (by kernel_rfl))⟩
 t0:=Tryz.underlying0
 a0:=Tryz.isAgg0
 z0:=Tryz.sizeOf0
 v0:=Tryz.zeroValue0
 t3:=Tryz.underlying3
 a3:=Tryz.isAgg3
 z3:=Tryz.sizeOf3
 v3:=Tryz.zeroValue3
 t4:=Tryz.underlying4
 a4:=Tryz.isAgg4
 z4:=Tryz.sizeOf4
 v4:=Tryz.zeroValue4
 t5:=Tryz.underlying5
 a5:=Tryz.isAgg5
 z5:=Tryz.sizeOf5
 v5:=Tryz.zeroValue5
 t9:=Tryz.underlying9
 a9:=Tryz.isAgg9
 z9:=Tryz.sizeOf9
 v9:=Tryz.zeroValue9
 t22:=Tryz.underlying45
 a22:=Tryz.isAgg45
 z22:=Tryz.sizeOf45
 v22:=Tryz.zeroValue45
 t25:=Tryz.underlying115
 a25:=Tryz.isAgg115
 z25:=Tryz.sizeOf115
 v25:=Tryz.zeroValue115
 t39:=Tryz.underlying210
 a39:=Tryz.isAgg210
 z39:=Tryz.sizeOf210
 v39:=Tryz.zeroValue210
 t45:=Tryz.underlying248
 a45:=Tryz.isAgg248
 z45:=Tryz.sizeOf248
 v45:=Tryz.zeroValue248
 t46:=Tryz.underlying249
 a46:=Tryz.isAgg249
 z46:=Tryz.sizeOf249
 v46:=Tryz.zeroValue249
 t50:=Tryz.underlying107
 a50:=Tryz.isAgg107
 z50:=Tryz.sizeOf107
 v50:=Tryz.zeroValue107
 t53:=Tryz.underlying255
 a53:=Tryz.isAgg255
 z53:=Tryz.sizeOf255
 v53:=Tryz.zeroValue255
 t55:=Tryz.underlying257
 a55:=Tryz.isAgg257
 z55:=Tryz.sizeOf257
 v55:=Tryz.zeroValue257
 t66:=Tryz.underlying296
 a66:=Tryz.isAgg296
 z66:=Tryz.sizeOf296
 v66:=Tryz.zeroValue296
 t70:=Tryz.underlying300
 a70:=Tryz.isAgg300
 z70:=Tryz.sizeOf300
 v70:=Tryz.zeroValue300
 t76:=Tryz.underlying320
 a76:=Tryz.isAgg320
 z76:=Tryz.sizeOf320
 v76:=Tryz.zeroValue320
 t77:=Tryz.underlying162
 a77:=Tryz.isAgg162
 z77:=Tryz.sizeOf162
 v77:=Tryz.zeroValue162 }
def sort123_ren:Go.Shelf.Ren:=⟨fun|6=>123|15=>128|14=>166|28=>175|29=>176|20=>211|21=>212|22=>213|23=>214|24=>215|25=>216|26=>217|27=>218|46=>246|47=>220|48=>221|49=>247|50=>248|57=>262|n=>n,fun|22=>164|24=>113|25=>205|3=>3|39=>210|0=>0|53=>255|55=>257|4=>4|46=>249|45=>248|50=>107|5=>5|9=>9|66=>296|70=>300|76=>320|77=>162|n=>n,fun|n=>n⟩
theorem sort123:Go.Proofs.SlLaysF0.n6 Tryz.prog sort123_ren:={
 mixed:=by kernel_rfl
 f6:=⟨Tryz.f123.name,by decide,Tryz.func123.trans (congrArg some (by kernel_rfl))⟩
 f14:=⟨Tryz.f166.name,by decide,Tryz.func166.trans (congrArg some (by kernel_rfl))⟩
 f15:=Tryz.func128.trans (congrArg some (by kernel_rfl))
 f20:=⟨Tryz.f211.name,by decide,Tryz.func211.trans (congrArg some (by kernel_rfl))⟩
 f21:=⟨Tryz.f212.name,by decide,Tryz.func212.trans (congrArg some (by kernel_rfl))⟩
 f22:=⟨Tryz.f213.name,by decide,Tryz.func213.trans (congrArg some (by kernel_rfl))⟩
 f23:=⟨Tryz.f214.name,by decide,Tryz.func214.trans (congrArg some (by kernel_rfl))⟩
 f24:=⟨Tryz.f215.name,by decide,Tryz.func215.trans (congrArg some (by kernel_rfl))⟩
 f25:=⟨Tryz.f216.name,by decide,Tryz.func216.trans (congrArg some (by kernel_rfl))⟩
 f26:=⟨Tryz.f217.name,by decide,Tryz.func217.trans (congrArg some (by kernel_rfl))⟩
 f27:=⟨Tryz.f218.name,by decide,Tryz.func218.trans (congrArg some (by kernel_rfl))⟩
 f28:=Tryz.func175.trans (congrArg some (by kernel_rfl))
 f29:=Tryz.func176.trans (congrArg some (by kernel_rfl))
 f46:=⟨Tryz.f246.name,by decide,Tryz.func246.trans (congrArg some (by kernel_rfl))⟩
 f47:=Tryz.func220.trans (congrArg some (by kernel_rfl))
 f48:=Tryz.func221.trans (congrArg some (by kernel_rfl))
 f49:=⟨Tryz.f247.name,by decide,Tryz.func247.trans (congrArg some (by kernel_rfl))⟩
 f50:=⟨Tryz.f248.name,by decide,Tryz.func248.trans (congrArg some (by kernel_rfl))⟩
 f57:=⟨Tryz.f262.name,by decide,Tryz.func262.trans (congrArg some (by kernel_rfl))⟩
 t0:=Tryz.underlying0
 a0:=Tryz.isAgg0
 z0:=Tryz.sizeOf0
 v0:=Tryz.zeroValue0
 t3:=Tryz.underlying3
 a3:=Tryz.isAgg3
 z3:=Tryz.sizeOf3
 v3:=Tryz.zeroValue3
 t4:=Tryz.underlying4
 a4:=Tryz.isAgg4
 z4:=Tryz.sizeOf4
 v4:=Tryz.zeroValue4
 t5:=Tryz.underlying5
 a5:=Tryz.isAgg5
 z5:=Tryz.sizeOf5
 v5:=Tryz.zeroValue5
 t9:=Tryz.underlying9
 a9:=Tryz.isAgg9
 z9:=Tryz.sizeOf9
 v9:=Tryz.zeroValue9
 t22:=Tryz.underlying164
 a22:=Tryz.isAgg164
 z22:=Tryz.sizeOf164
 v22:=Tryz.zeroValue164
 t25:=Tryz.underlying205
 a25:=Tryz.isAgg205
 z25:=Tryz.sizeOf205
 v25:=Tryz.zeroValue205
 t39:=Tryz.underlying210
 a39:=Tryz.isAgg210
 z39:=Tryz.sizeOf210
 v39:=Tryz.zeroValue210
 t45:=Tryz.underlying248
 a45:=Tryz.isAgg248
 z45:=Tryz.sizeOf248
 v45:=Tryz.zeroValue248
 t46:=Tryz.underlying249
 a46:=Tryz.isAgg249
 z46:=Tryz.sizeOf249
 v46:=Tryz.zeroValue249
 t50:=Tryz.underlying107
 a50:=Tryz.isAgg107
 z50:=Tryz.sizeOf107
 v50:=Tryz.zeroValue107
 t53:=Tryz.underlying255
 a53:=Tryz.isAgg255
 z53:=Tryz.sizeOf255
 v53:=Tryz.zeroValue255
 t55:=Tryz.underlying257
 a55:=Tryz.isAgg257
 z55:=Tryz.sizeOf257
 v55:=Tryz.zeroValue257
 t66:=Tryz.underlying296
 a66:=Tryz.isAgg296
 z66:=Tryz.sizeOf296
 v66:=Tryz.zeroValue296
 t70:=Tryz.underlying300
 a70:=Tryz.isAgg300
 z70:=Tryz.sizeOf300
 v70:=Tryz.zeroValue300
 t76:=Tryz.underlying320
 a76:=Tryz.isAgg320
 z76:=Tryz.sizeOf320
 v76:=Tryz.zeroValue320
 t77:=Tryz.underlying162
 a77:=Tryz.isAgg162
 z77:=Tryz.sizeOf162
 v77:=Tryz.zeroValue162 }
theorem sortOK(f sz:Nat)(h:(if f=87 then some 5 else if f=123 then some 6 else none)=some sz):SortOK Tryz.prog f sz:=by
 by_cases h1:f=87
 ·subst h1
  rw[if_pos rfl]at h
  cases h
  exact SortOK.of (ρ:=sort87_ren) sort87 (by decide) Tryz.isAgg44 Tryz.sizeOf44
 ·rw[if_neg h1]at h
  by_cases h2:f=123
  ·subst h2
   rw[if_pos rfl]at h
   cases h
   exact SortOK.of (ρ:=sort123_ren) sort123 (by decide) Tryz.isAgg113 Tryz.sizeOf113
  ·rw[if_neg h2]at h;cases h
end Go.Proofs.YtnaefnajkaohgaaGreatDoor
