/-
  Flat's laws, and what they stand on (merged by wip/gen2/mini.py): part Pm6. No condition.
-/
import Derived.Shelf.Small.Strs
import Derived.Shelf.Strings.Search1
import Derived.Shelf.Strings.Search2
import Derived.Shelf.Strings.Search3
import Derived.Shelf.LaysM
import Derived.Shelf.Strings.Shaped
import Derived.Test.YtghlmhlamoagoaaGreatProg
import Derived.Test.YtghlmhlamoagoaaGreatPm5
set_option linter.unusedVariables false
set_option linter.unusedSimpArgs false
namespace Go.Proofs.YtghlmhlamoagoaaGreat.Fl
open Go Go.Proofs Go.Proofs.YtghlmhlamoagoaaGreat.Sx
open Go.Shelf
section
def sh137r : Go.Shelf.Ren := ⟨fun | 137 => 64 | 217 => 98 | 266 => 131 | n => n, fun | 9 => 9 | 5 => 5 | 3 => 3 | n => n, fun | n => n⟩
theorem sh137 : Go.Proofs.Lays.n137 Tryz.prog sh137r := {
 mixed := by kernel_rfl
 f137 := Tryz.func64.trans (congrArg some (by kernel_rfl))
 f217 := Tryz.func98.trans (congrArg some (by kernel_rfl))
 f266 := Tryz.func131.trans (congrArg some (by kernel_rfl))
 t3 := Tryz.underlying3
 a3 := Tryz.isAgg3
 z3 := Tryz.sizeOf3
 v3 := Tryz.zeroValue3
 t5 := Tryz.underlying5
 a5 := Tryz.isAgg5
 z5 := Tryz.sizeOf5
 v5 := Tryz.zeroValue5
 t9 := Tryz.underlying9
 a9 := Tryz.isAgg9
 z9 := Tryz.sizeOf9
 v9 := Tryz.zeroValue9 }
open Go.RowKit in
theorem strings_IndexByte (s : ByteArray) (c : Int) (w : World) :
  Calls Tryz.prog 64 #[.string s, .int .u8 c] w fun e w' => e = .returned (.int .i64 (Lib.indexByte s.data.toList c.toNat.toUInt8)) /\ w' = w := Any.strings_IndexByte sh137 s c w
def sh144r : Go.Shelf.Ren := ⟨fun | 144 => 68 | 143 => 99 | 219 => 132 | 217 => 98 | 225 => 168 | 224 => 169 | 267 => 170 | 266 => 131 | 314 => 182 | n => n, fun | 9 => 9 | 4 => 4 | 3 => 3 | 5 => 5 | 46 => 74 | 146 => 165 | 51 => 93 | n => n, fun | 1 => 0 | n => n⟩
theorem sh144 : Go.Proofs.Lays.n144 Tryz.prog sh144r := {
 mixed := by kernel_rfl
 f143 := Tryz.func99.trans (congrArg some (by kernel_rfl))
 f144 := Tryz.func68.trans (congrArg some (by kernel_rfl))
 f217 := Tryz.func98.trans (congrArg some (by kernel_rfl))
 f219 := Tryz.func132.trans (congrArg some (by kernel_rfl))
 f224 := Tryz.func169.trans (congrArg some (by kernel_rfl))
 f225 := Tryz.func168.trans (congrArg some (by kernel_rfl))
 f266 := Tryz.func131.trans (congrArg some (by kernel_rfl))
 f267 := Tryz.func170.trans (congrArg some (by kernel_rfl))
 f314 := Tryz.func182.trans (congrArg some (by kernel_rfl))
 t3 := Tryz.underlying3
 a3 := Tryz.isAgg3
 z3 := Tryz.sizeOf3
 v3 := Tryz.zeroValue3
 t4 := Tryz.underlying4
 a4 := Tryz.isAgg4
 z4 := Tryz.sizeOf4
 v4 := Tryz.zeroValue4
 t5 := Tryz.underlying5
 a5 := Tryz.isAgg5
 z5 := Tryz.sizeOf5
 v5 := Tryz.zeroValue5
 t9 := Tryz.underlying9
 a9 := Tryz.isAgg9
 z9 := Tryz.sizeOf9
 v9 := Tryz.zeroValue9
 t46 := Tryz.underlying74
 a46 := Tryz.isAgg74
 z46 := Tryz.sizeOf74
 v46 := Tryz.zeroValue74
 t51 := Tryz.underlying93
 a51 := Tryz.isAgg93
 z51 := Tryz.sizeOf93
 v51 := Tryz.zeroValue93
 t146 := Tryz.underlying165
 a146 := Tryz.isAgg165
 z146 := Tryz.sizeOf165
 v146 := Tryz.zeroValue165
 g1 := by kernel_rfl }
open Go.RowKit Go.Lib in
theorem strings_Contains (s sub : ByteArray) (m : Int) (w : World) (hs : s.size < 4294967281) (hm : w.cell? ⟨0, 0, none⟩ = some (.int .i64 m)) :
  Calls Tryz.prog 68 #[.string s, .string sub] w fun e w' => e = .returned (.bool (Lib.contains s.data.toList sub.data.toList)) /\ w' = w := Any.strings_Contains sh144 s sub m w hs hm

def gl (m : Int) : Gl := [[.int .i64 m]]
def kn : Kn := fun f args => if f == 64 then (match args with
  | [.string s, .int .u8 c] => some (.int .i64 (Lib.indexByte s.data.toList c.toNat.toUInt8))
  | _ => none)
 else if f == 68 then (match args with
  | [.string s, .string t] => if Nat.blt s.size 1000000 then some (.bool (Lib.contains s.data.toList t.data.toList)) else none
  | _ => none)
 else none
theorem call64 : ∀ args w, (callFunc 64 args).run Tryz.prog w = .ok (.enter 64 args) w := callable_of Tryz.func64 (by kernel_rfl) (by kernel_rfl)
theorem call68 : ∀ args w, (callFunc 68 args).run Tryz.prog w = .ok (.enter 68 args) w := callable_of Tryz.func68 (by kernel_rfl) (by kernel_rfl)
theorem kn_ok {m : Int} : KnOk Tryz.prog (gl m) kn := by
 intro f args v h
 unfold kn at h
 split at h
 ·rename_i hf
  simp only [beq_iff_eq] at hf
  subst hf
  split at h
  ·rename_i s c
   simp only [zOi] at h
   subst h
   exact ⟨call64, fun w _ => strings_IndexByte s c w⟩
  ·cases h
 ·split at h
  ·rename_i hf
   simp only [beq_iff_eq] at hf
   subst hf
   split at h
   ·rename_i s t
    split at h
    ·rename_i hs
     simp only [Nat.blt_eq] at hs
     simp only [zOi] at h
     subst h
     exact ⟨call68, fun w hL => strings_Contains s t m w (by omega) ((hL 0 _ rfl).2 0 _ rfl).1⟩
    ·cases h
   ·cases h
  ·cases h
def inlD : List Nat := [65, 66, 67]
theorem inlD_ok : nameOk Tryz.prog inlD = true := by kernel_rfl
noncomputable def hD (m : Int) : Hnd := hndI Tryz.prog (gl m) inlD (hndG kn (hnd0 (tabS []))) 6
theorem hD_ok {m : Int} : HOk Tryz.prog (tabF []) (gl m) (hD m) := hndI_ok (hndG_ok kn_ok (hnd0_ok AllOk.nil)) inlD_ok 6
def yQ0 : Int := 726838724295606890549323807888004534353641360941947557323300959964194999164570193457624599922011041408150812790979254397670598192922624
def yQ1 : Int := 46517678354918840995156723704832290198650134980275723138674532921210270856174288729055080833215853861477108691528488691217153114909966336
def yQ2 : Int := 44362715105933037753254626946289339254982993206984399648840537825293671878301769421961150729115479500154430151744271665650286460928
def yQ3 : Int := 780437137578998057845399307448291576437149535667310781232749694947540445558026181087377878027144855279719431371027801416046156308091532052791296
def yQ4 : Int := 195109284394749514461349826862072894109287383916627446523569838416660578104553149761100465957791984940402361426764746027698188264832463892643840
def yQ5 : Int := 2907354897182427562197295231552018137414565443003901738167771557506112863504763963436197752063297654702035326348216227702985221860229120
def yQ6 : Int := 190536410541747572716161940294993060653600960856081490745673670328770095805227685313574673788367647727711789876536065982517204403585361641472
def yQ7 : Int := 10830740992659433045228180406808920716548830987304988390080763552899937894035775318075300058832483142685234851064918696217542656
def yQ8 : Int := 181709681073901722637330951972001133588410340187743858635485722344132053969047747714762359503961462866156212677563062381503626715594752
def yQ9 : Int := 10830740992659433045228180406808920716548830987304988390080763552899937894035775318075320475774498398993042653541364602310230016
def yQ10 : Int := 3121748550315992231381597229793166305748598142665037900454029488065446583248083418623887437579815616915699699348141037526450113058850286967193600
def yQ11 : Int := 43322963970637732180912721627235682866194577964365338880359821138227531344882950588075000130365368823514038104518866803588333568
def yQ12 : Int := 726838724295606890549323807888004534353908359066808174041789576893910482127723261391509016336204240208431558029312218530601966810169344
def yQ13 : Int := 726838724295606890549323807888004534353641360687319031615936312045174747844351335085644371917188536148393882527886461379396112524247040
def yQ14 : Int := 195109284394749514461349826862072894109287383933648593216064590635745907325591768174340767620344854383262810504356930694534083408453709447823360
def yQ15 : Int := 48777321098687378615337456715518223527321845979156861630892459604165144526138287440275116489449434900774837964251293259181752157305589781757952
def yQ16 : Int := 44362715105933037753254626946289339254982993454674683407620994367525064998300430018867665901784609840525263237376199374438565675008
def yQ17 : Int := 2839213766779714416208296124562517712318976750336078876529331680811401319294114285075067206599837071231143769519911797585447089078272
def yQ18 : Int := 3121748550315992231381597229793166305748598160162976949123252354605389555760736542945661550209214846592189076847721875447778821995708196411408384
def yQ19 : Int := 11908525658859223294760121268437066290850060053501273729148977234136377652160962748046445608443510848628006398594220943421099340302143979520
def yQ20 : Int := 3048582568667961163458591044719888970457619748197710455534744213388606323933908069737598215291350334416159094094282883217024474033638694977536
def yQ21 : Int := 49947976805055875702105555676690660891977570282640606407264471809047145331969334697982199001277049870651195189570256600423201808941604591475097600
def yQ22 : Int := 177450860423732151013018507785157357019997157975294964365671283421364863800713686864617173588016192410816062535838538391308147359744
def yQ23 : Int := 726838724295606890549323807888004534353641360687333601632628005013206643808652511477444189968477343806400219859397942666245970369445888
def yQ24 : Int := 47634102635436893179040485073748265163400240214020372686418417582192523951306921328393668446726893334518398229553359858942592719766452961280
def yQ25 : Int := 2839213766779714416208296124562517712318976750336078876529331680811401319294114284981531101816103802336842955641483678046375697711104
def yQ26 : Int := 44362715105933037753254626946289339254982993454674683407620994367525064998300430018867665918118163452730309483618180531163439824896
def yQ27 : Int := 3273390607896141870013189696827599152216642046043082287489089632191528776422491495854192917681351302873762116489705797324469808876731709473239632707584
def yQ28 : Int := 10328999512347634358623676688012047497319060313515652074890864899539888280902648276808306112679457988729159323707565408256
def yQ29 : Int := 2977131414714805823690030317109266572713608638737646280875170106957457334795154478659525173325814647134534956257823276237897799354237845504
def yQ30 : Int := 799167628880894011233688890827050574271641124522249702516231548944754325311509355167715184020432821223101467994389364477998250358826299230026465280
def yQ31 : Int := 45427420268475430659332737993000283397119272441675510877611848555869405132982703836969313521012765013026972376832013658162622925635584
def yQ32 : Int := 2977131414714805823690030317109266572712515013375318432287244308534094413040240687011611402110877626405845135572062443084873762269946707968
def yQ33 : Int := 12194330274671844653834364178879555881830461494785108743194824577091368945026738553696099362080362822308538824058108976302350075490726024577024
def yQ34 : Int := 11629419588729710248789180926208072549658261836182240207207397947480490638914467926866138944834966247115459760869754281476586203609300992
def yQ35 : Int := 190536410541747572716161940294993060653670952879209361976010886845277269426889886634209609689810565578943435724963250271593760288975980855296
def yQ36 : Int := 48777321098687378615337456715518223527321845979140174486803824535957194202614548865552052991894147362403504915054570481332879203663947413585920
def yQ37 : Int := 53631231719770388398296099992823384509917463282369573580886268967943437700214259174971380883969035499343018934475392786320276541457109665051414240444809216
def yQ38 : Int := 13407807929942597099574024998205846127479365820592393447715584636778145609993618244565757989468325216272923359915934633759014893021269955212113293426556928
def yQ39 : Int := 46517678354918840995156723704832290198633047083988355918723775629614947905490651681111193078256169028554093182166819815986475949556236288
def yQ40 : Int := 195109284394749514461349826862072894109359055748310386663435148129563923893135243913430640226959192267876735682025822398393055012772127990349824
def yQ41 : Int := 173291855882550928723650886508942731464777565872606740841476051479537905148271651668073800416496911546829251118334659233071497216
def yQ42 : Int := 10328999512347634358623676688012047497319060313515652074890864899539888280902648280891694515730719550289654612888783945728
def yQ43 : Int := 11356855067118857664833184498250070849279818110418877719402962138967351283245675959335499109633036314292228002293666457043721431023616
def yQ44 : Int := 780437137578998057845399307448291576437436222993241546653740592518255695572540975653722560906714335814036809286922859642046114691992755768393728
def yQ45 : Int := 13407807929942597099574024998205846127479365820592465049555311133456501868226525167018774190822814936475522802256873603340691791279374126479250259164790784
def yQ46 : Int := 190536410541747572716161940294993060653600960856017324112419134017052639766042789901501552906650088255196995594321035314226829309603383083008
def yQ47 : Int := 3196670515523576044934755563308202297086564498088930462651626406189408165229216764865599923370423142231605007948922787158540922853018036396921716736
def yQ48 : Int := 799167628880894011233688890827050574271641124522232618791793861197122669815636768613204836217661308380857924847682500774836877531324633281690861568
def yQ49 : Int := 762145642166990290864647761179972242614403843424065223372370339915611306483558837143325787394153355106908380576264350723030770442938523582464
def yQ50 : Int := 2707685248164858261307045101702230179138140227894515447474232229940259762584132190510560472219794258922663801246501287896285184
def yQ51 : Int := 190536410541747572716161940294993060653600960856016306589077439593582789853963081506062706999226846715826789184405227878405286614943842435072
def yQ52 : Int := 2977131414714805823690030317109266572712515013375254790454334993649731091468173148532229796868539267724823298037998686604789990458004602880
def yQ53 : Int := 780437137578998057845399307448291576437149535666242788733307228073585977839164249234765606291981334042081569245482023718228012254522343149273088
def yQ54 : Int := 195109284394749514461349826862072894109287383916560697947215298143828776810458195462208211967576589449614019660218281925331516814655789654343680
def yQ55 : Int := 2977131414714805823690030317109266572713608638737646280875170106957457334795154478659525149947497440610912104523099096655167465404848144384
def yQ56 : Int := 44362715105933037753254626946289339254982993206013302344926431313402168398267307761474874000039346352168427599928499074261380497408
def yQ57 : Int := 2977131414714805823690030317109266572712515013375255023574602060737219601803601967354498593951650984988813491671316373051481110170658930688
def yQ58 : Int := 13407807929942597099574024998205846127479365820592393447715584636778145609993618244565757989468325216273203968230302167119310000509151481551887232474808320
def yQ59 : Int := 2907354897182427562197295231552018137414565442749287782477098602555124508148846281456017347818757450183059625157486500766400593713430528
def yQ60 : Int := 48777321098687378615337456715518223527321845979140174295831701754599123614947765577172850393225449351454581702634307586727446212468784691675136
def yQ61 : Int := 2907354897182427562197295231552018137414565442750266887598780370006867916949885334984965115156670735749413954440512686703039106431057920
def yQ62 : Int := 11090678776483259438313656736572334813745748301507060575862046699550124805259267177524433662386367954152256436582285087280600186880
def yQ63 : Int := 2644223875160994395807661232131084159313679440260006931172061414282211399911077958601589507050660505174793088361538758115328
def yQ64 : Int := 12486994201263968925526388919172665222994392570659884619732915649177375645426627987756249700665715034056000710368872578982985173914440236716261376
def yQ65 : Int := 11629419588729710248789180926208072549658261770997089025212246068944262076047551361454022643995517881637492145066043275176815071382732800
def yQ66 : Int := 195109284394749514461349826862072894109287383916560697947215298143828776810458195462208211967295981135246486299923174437449990474881850606092288
def yQ67 : Int := 693167423530203714894603546035770925859110263490426963365904205918151620593086606672295201665987646187317004473338636932285988864
def yQ68 : Int := 43322963970637732180912721627235682866194577964365338880359821138227531344882950588075020547307384079821845906995312709681020928
def yQ69 : Int := 12194330274671844653834364178879555881830461494785043621700956133989298550653637216388013247950152814425359853555323724671415247477125098242048
def yQ70 : Int := 44362715105933037753254626946289339254984011724001232445770807512678145613970535796372528254969338084818765859874452075596360974336
def yQ71 : Int := 726838724295606890549323807888004534353658048086036192391508910287718737739293256955271962152731757617446125264016712278425102043840512
def yQ72 : Int := 709803441694928604052074031140629428079744187584019719132332920202850329823528571245382864655645615239019551199390511675312875503616
def yQ73 : Int := 3121748550315992231381597229793166305748598142664971167155444770301260428967331127395331391475239120576519917004652710296641246876575380797390848
def yQ74 : Int := 44362715105933037753254626946289339254982993206016859477907801666925580498926774654004126453968274830295719736909222165603919331328
def yQ75 : Int := 11356855067118857664833184498250070849275711445890587395453044952459517976872996199053868582151753855146329569593343570244055701913600
def yQ76 : Int := 6148914691236517205
def yQ77 : Int := 3689348814741910323
def yQ78 : Int := 1085102592571150095
def yQ79 : Int := 35184372088832
def yQ80 : Int := 7687697232696013035490465480201479025983241823794691621558168976140934720122093268938148043346259333988919315645138393722043075242293497100043735968399260592061872935294925786289893838625877314241904236992795702768186705981724862830439603637638357838079197184
def yQ81 : Int := 4149515568880992958512407863691161151012446232242436899995657329690652811412908146399707048947103794288197886611300789182395151075411775307886874834113963687061181803401509523685375
def nmT : List Int := [yQ0, yQ1, yQ2, yQ3, yQ4, yQ1, yQ5, yQ3, yQ6, yQ1, yQ5, yQ7, yQ4, yQ1, yQ5, yQ3, yQ8, yQ1, yQ2, yQ3, yQ4, yQ1, yQ5, yQ3, yQ9, yQ1, yQ4, yQ3, yQ4, yQ1, yQ5, yQ3, yQ10, yQ11, yQ2, yQ12, yQ13, yQ11, yQ14, yQ12, yQ15, yQ11, yQ14, yQ7, yQ13, yQ11, yQ14, yQ12, yQ16, yQ11, yQ2, yQ12, yQ4, yQ11, yQ14, yQ12, yQ17, yQ11, yQ4, yQ12, yQ4, yQ11, yQ14, yQ12, yQ18, yQ19, yQ2, yQ20, yQ4, yQ19, yQ21, yQ20, yQ22, yQ19, yQ21, yQ23, yQ24, yQ19, yQ21, yQ20, yQ25, yQ19, yQ2, yQ20, yQ4, yQ19, yQ21, yQ20, yQ26, yQ19, yQ4, yQ20, yQ4, yQ19, yQ21, yQ20, yQ27, yQ28, yQ2, yQ29, yQ4, yQ28, yQ30, yQ29, yQ31, yQ28, yQ30, yQ32, yQ24, yQ28, yQ30, yQ29, yQ33, yQ28, yQ2, yQ29, yQ4, yQ28, yQ30, yQ29, yQ34, yQ28, yQ4, yQ29, yQ4, yQ28, yQ30, yQ29, yQ4, yQ35, yQ4, yQ36, yQ37, yQ35, yQ38, yQ36, yQ39, yQ4, yQ40, yQ41, yQ37, yQ35, yQ38, yQ36, yQ42, yQ35, yQ2, yQ43, yQ37, yQ35, yQ38, yQ36, yQ44, yQ35, yQ45, yQ46, yQ47, yQ35, yQ48, yQ43, yQ49, yQ50, yQ51, yQ52, yQ49, yQ50, yQ51, yQ52, yQ53, yQ50, yQ54, yQ55, yQ49, yQ50, yQ51, yQ52, yQ56, yQ50, yQ2, yQ52, yQ49, yQ50, yQ51, yQ52, yQ57, yQ50, yQ58, yQ59, yQ49, yQ50, yQ51, yQ52, yQ60, yQ61, yQ4, yQ62, yQ60, yQ61, yQ63, yQ62, yQ64, yQ61, yQ65, yQ66, yQ60, yQ61, yQ63, yQ62, yQ67, yQ61, yQ2, yQ62, yQ4, yQ61, yQ63, yQ62, yQ68, yQ61, yQ4, yQ62, yQ4, yQ61, yQ63, yQ62, yQ69, yQ70, yQ4, yQ71, yQ69, yQ70, yQ72, yQ71, yQ73, yQ70, yQ4, yQ70, yQ69, yQ70, yQ72, yQ71, yQ74, yQ70, yQ2, yQ71, yQ4, yQ70, yQ72, yQ71, yQ75, yQ70, yQ4, yQ71, yQ4, yQ70, yQ72, yQ71]
def mdT : List Int := [17, 9, 20, 9, 3, 3, 3, 3, 18, 2, 1, 2, 6, 6, 6, 6, 11, 10, 20, 10, 4, 4, 4, 4, 0, 8, 0, 8, 7, 7, 7, 7, 14, 9, 20, 9, 3, 3, 3, 3, 19, 2, 1, 2, 6, 6, 6, 6, 11, 10, 20, 10, 4, 4, 4, 4, 0, 8, 0, 8, 7, 7, 7, 7, 16, 9, 20, 9, 3, 3, 3, 3, 18, 2, 1, 2, 13, 6, 6, 6, 11, 10, 20, 10, 4, 4, 4, 4, 0, 8, 0, 8, 7, 7, 7, 7, 15, 9, 20, 9, 3, 3, 3, 3, 19, 2, 1, 2, 12, 6, 6, 6, 11, 10, 20, 10, 4, 4, 4, 4, 0, 8, 0, 8, 7, 7, 7, 7, 2, 9, 2, 9, 3, 3, 3, 3, 0, 2, 0, 2, 6, 6, 6, 6, 11, 10, 20, 10, 4, 4, 5, 5, 0, 8, 0, 8, 7, 7, 8, 8, 2, 9, 2, 9, 3, 3, 3, 3, 0, 2, 0, 2, 6, 6, 6, 6, 11, 10, 20, 10, 4, 4, 5, 5, 0, 8, 0, 8, 7, 7, 8, 8, 2, 9, 2, 9, 3, 3, 3, 3, 0, 2, 0, 2, 6, 6, 6, 6, 11, 10, 20, 10, 4, 4, 4, 4, 0, 8, 0, 8, 7, 7, 7, 7, 2, 9, 2, 9, 3, 3, 3, 3, 0, 2, 0, 2, 6, 6, 6, 6, 11, 10, 20, 10, 4, 4, 4, 4, 0, 8, 0, 8, 7, 7, 7, 7]
def usT : List Int := [0, 1, 0, 3, 1, 1, 3, 3, 0, 1, 0, 1, 1, 1, 3, 3, 0, 1, 0, 3, 1, 1, 3, 3, 0, 1, 0, 3, 1, 1, 3, 3, 0, 1, 0, 3, 1, 1, 3, 3, 0, 1, 0, 1, 1, 1, 3, 3, 0, 1, 0, 3, 1, 1, 3, 3, 0, 1, 0, 3, 1, 1, 3, 3, 0, 1, 0, 3, 1, 1, 3, 3, 0, 1, 0, 1, 0, 1, 3, 3, 0, 1, 0, 3, 1, 1, 3, 3, 0, 1, 0, 3, 1, 1, 3, 3, 0, 1, 0, 3, 1, 1, 3, 3, 0, 1, 0, 1, 0, 1, 3, 3, 0, 1, 0, 3, 1, 1, 3, 3, 0, 1, 0, 3, 1, 1, 3, 3, 1, 2, 1, 2, 2, 2, 2, 2, 0, 1, 0, 1, 2, 2, 2, 2, 0, 2, 0, 2, 2, 2, 2, 2, 0, 2, 0, 2, 2, 2, 2, 2, 1, 1, 1, 1, 1, 1, 1, 1, 0, 1, 0, 1, 1, 1, 1, 1, 0, 1, 0, 1, 1, 1, 1, 1, 0, 1, 0, 1, 1, 1, 1, 1, 1, 1, 1, 3, 1, 1, 3, 3, 0, 1, 0, 1, 1, 1, 3, 3, 0, 1, 0, 3, 1, 1, 3, 3, 0, 1, 0, 3, 1, 1, 3, 3, 1, 1, 1, 3, 1, 1, 3, 3, 0, 1, 0, 1, 1, 1, 3, 3, 0, 1, 0, 3, 1, 1, 3, 3, 0, 1, 0, 3, 1, 1, 3, 3]
def cyT : List Int := [7, 6, 0, 8, 3, 3, 5, 5, 3, 2, 2, 2, 4, 4, 6, 6, 2, 5, 0, 8, 4, 4, 6, 6, 2, 4, 2, 7, 4, 4, 7, 7, 6, 6, 0, 8, 3, 3, 5, 5, 4, 2, 2, 2, 4, 4, 6, 6, 2, 5, 0, 8, 4, 4, 6, 6, 2, 4, 2, 7, 4, 4, 7, 7, 6, 6, 0, 8, 3, 3, 5, 5, 3, 2, 2, 2, 3, 4, 6, 6, 2, 5, 0, 8, 4, 4, 6, 6, 2, 4, 2, 7, 4, 4, 7, 7, 6, 6, 0, 8, 3, 3, 5, 5, 4, 2, 2, 2, 5, 4, 6, 6, 2, 5, 0, 8, 4, 4, 6, 6, 2, 4, 2, 7, 4, 4, 7, 7, 2, 6, 2, 6, 3, 3, 3, 3, 2, 2, 2, 2, 4, 4, 4, 4, 2, 6, 0, 6, 4, 4, 4, 4, 2, 5, 2, 5, 5, 5, 5, 5, 2, 6, 2, 6, 3, 3, 3, 3, 2, 2, 2, 2, 4, 4, 4, 4, 2, 5, 0, 5, 4, 4, 4, 4, 2, 4, 2, 4, 4, 4, 4, 4, 2, 6, 2, 8, 3, 3, 5, 5, 2, 2, 2, 2, 4, 4, 6, 6, 2, 5, 0, 8, 4, 4, 6, 6, 2, 4, 2, 7, 4, 4, 7, 7, 2, 6, 2, 8, 3, 3, 5, 5, 2, 2, 2, 2, 4, 4, 6, 6, 2, 5, 0, 8, 4, 4, 6, 6, 2, 4, 2, 7, 4, 4, 7, 7]
def crT : List Bool := [false, false, false, false, false, false, false, false, false, false, false, false, false, false, false, false, true, true, false, false, false, false, false, false, false, true, false, false, true, true, false, false, false, false, false, false, false, false, false, false, false, false, false, false, false, false, false, false, true, true, false, false, false, false, false, false, false, true, false, false, true, true, false, false, false, false, false, false, false, false, false, false, false, false, false, false, false, false, false, false, true, true, false, false, false, false, false, false, false, true, false, false, true, true, false, false, false, false, false, false, false, false, false, false, false, false, false, false, false, false, false, false, true, true, false, false, false, false, false, false, false, true, false, false, true, true, false, false, false, false, false, false, false, false, false, false, false, false, false, false, false, false, false, false, true, false, false, false, false, false, false, false, false, false, false, false, false, false, false, false, false, false, false, false, false, false, false, false, false, false, false, false, false, false, false, false, true, true, false, true, false, false, false, false, false, true, false, true, true, true, true, true, false, false, false, false, false, false, false, false, false, false, false, false, false, false, false, false, true, true, false, false, false, false, false, false, false, true, false, false, true, true, false, false, false, false, false, false, false, false, false, false, false, false, false, false, false, false, false, false, true, true, false, false, false, false, false, false, false, true, false, false, true, true, false, false]
def gdT : List Bool := [true, true, false, false, false, true, true, false, true, true, true, false, false, true, true, false, true, true, false, false, false, true, true, false, true, true, false, false, false, true, true, false, true, true, false, false, true, true, true, false, true, true, true, false, true, true, true, false, true, true, false, false, false, true, true, false, true, true, false, false, false, true, true, false, true, true, false, false, false, true, true, false, true, true, true, false, true, true, true, false, true, true, false, false, false, true, true, false, true, true, false, false, false, true, true, false, true, true, false, false, false, true, true, false, true, true, true, false, true, true, true, false, true, true, false, false, false, true, true, false, true, true, false, false, false, true, true, false, false, true, false, false, true, true, true, false, true, false, true, false, true, true, true, false, true, true, false, false, true, true, true, false, true, true, true, false, false, true, false, false, true, true, true, false, true, true, true, false, true, true, true, false, true, true, true, false, true, true, false, false, true, true, true, false, true, true, true, false, true, true, true, false, true, true, false, false, true, true, true, false, true, true, true, false, true, true, true, false, true, true, false, false, false, true, true, false, true, true, false, false, false, true, true, false, true, true, false, false, true, true, true, false, true, true, true, false, true, true, true, false, true, true, false, false, false, true, true, false, true, true, false, false, false, true, true, false]
def dec (n : Nat) : Fl := ([nmT.getD n 0, mdT.getD n 0, usT.getD n 0, cyT.getD n 0], [crT.getD n false, gdT.getD n false])
def ckD : List CK := [.str, .int .i64, .int .i64, .int .i64, .bool, .bool]
theorem allR_join {f : Nat -> Bool} {k lo hi : Nat} (h : allR f k lo = true) (h' : allR f k hi = true) (he : hi = lo + 2 ^ k) : allR f (k + 1) lo = true := by
 subst he
 simp only [allR, h, h', Bool.and_self]
theorem k35_0 (m : Int) : allR (fun n => flEq (caseX Tryz.prog (hD m) (gl m) (ctlI Tryz.f35) Tryz.f35 ckD n) (dec n)) 3 0 = true := by kernel_rfl
theorem k35_1 (m : Int) : allR (fun n => flEq (caseX Tryz.prog (hD m) (gl m) (ctlI Tryz.f35) Tryz.f35 ckD n) (dec n)) 3 8 = true := by kernel_rfl
theorem k35_2 (m : Int) : allR (fun n => flEq (caseX Tryz.prog (hD m) (gl m) (ctlI Tryz.f35) Tryz.f35 ckD n) (dec n)) 3 16 = true := by kernel_rfl
theorem k35_3 (m : Int) : allR (fun n => flEq (caseX Tryz.prog (hD m) (gl m) (ctlI Tryz.f35) Tryz.f35 ckD n) (dec n)) 3 24 = true := by kernel_rfl
theorem k35_4 (m : Int) : allR (fun n => flEq (caseX Tryz.prog (hD m) (gl m) (ctlI Tryz.f35) Tryz.f35 ckD n) (dec n)) 3 32 = true := by kernel_rfl
theorem k35_5 (m : Int) : allR (fun n => flEq (caseX Tryz.prog (hD m) (gl m) (ctlI Tryz.f35) Tryz.f35 ckD n) (dec n)) 3 40 = true := by kernel_rfl
theorem k35_6 (m : Int) : allR (fun n => flEq (caseX Tryz.prog (hD m) (gl m) (ctlI Tryz.f35) Tryz.f35 ckD n) (dec n)) 3 48 = true := by kernel_rfl
theorem k35_7 (m : Int) : allR (fun n => flEq (caseX Tryz.prog (hD m) (gl m) (ctlI Tryz.f35) Tryz.f35 ckD n) (dec n)) 3 56 = true := by kernel_rfl
theorem k35_8 (m : Int) : allR (fun n => flEq (caseX Tryz.prog (hD m) (gl m) (ctlI Tryz.f35) Tryz.f35 ckD n) (dec n)) 3 64 = true := by kernel_rfl
theorem k35_9 (m : Int) : allR (fun n => flEq (caseX Tryz.prog (hD m) (gl m) (ctlI Tryz.f35) Tryz.f35 ckD n) (dec n)) 3 72 = true := by kernel_rfl
theorem k35_10 (m : Int) : allR (fun n => flEq (caseX Tryz.prog (hD m) (gl m) (ctlI Tryz.f35) Tryz.f35 ckD n) (dec n)) 3 80 = true := by kernel_rfl
theorem k35_11 (m : Int) : allR (fun n => flEq (caseX Tryz.prog (hD m) (gl m) (ctlI Tryz.f35) Tryz.f35 ckD n) (dec n)) 3 88 = true := by kernel_rfl
theorem k35_12 (m : Int) : allR (fun n => flEq (caseX Tryz.prog (hD m) (gl m) (ctlI Tryz.f35) Tryz.f35 ckD n) (dec n)) 3 96 = true := by kernel_rfl
theorem k35_13 (m : Int) : allR (fun n => flEq (caseX Tryz.prog (hD m) (gl m) (ctlI Tryz.f35) Tryz.f35 ckD n) (dec n)) 3 104 = true := by kernel_rfl
theorem k35_14 (m : Int) : allR (fun n => flEq (caseX Tryz.prog (hD m) (gl m) (ctlI Tryz.f35) Tryz.f35 ckD n) (dec n)) 3 112 = true := by kernel_rfl
theorem k35_15 (m : Int) : allR (fun n => flEq (caseX Tryz.prog (hD m) (gl m) (ctlI Tryz.f35) Tryz.f35 ckD n) (dec n)) 3 120 = true := by kernel_rfl
theorem k35_16 (m : Int) : allR (fun n => flEq (caseX Tryz.prog (hD m) (gl m) (ctlI Tryz.f35) Tryz.f35 ckD n) (dec n)) 3 128 = true := by kernel_rfl
theorem k35_17 (m : Int) : allR (fun n => flEq (caseX Tryz.prog (hD m) (gl m) (ctlI Tryz.f35) Tryz.f35 ckD n) (dec n)) 3 136 = true := by kernel_rfl
theorem k35_18 (m : Int) : allR (fun n => flEq (caseX Tryz.prog (hD m) (gl m) (ctlI Tryz.f35) Tryz.f35 ckD n) (dec n)) 3 144 = true := by kernel_rfl
theorem k35_19 (m : Int) : allR (fun n => flEq (caseX Tryz.prog (hD m) (gl m) (ctlI Tryz.f35) Tryz.f35 ckD n) (dec n)) 3 152 = true := by kernel_rfl
theorem k35_20 (m : Int) : allR (fun n => flEq (caseX Tryz.prog (hD m) (gl m) (ctlI Tryz.f35) Tryz.f35 ckD n) (dec n)) 3 160 = true := by kernel_rfl
theorem k35_21 (m : Int) : allR (fun n => flEq (caseX Tryz.prog (hD m) (gl m) (ctlI Tryz.f35) Tryz.f35 ckD n) (dec n)) 3 168 = true := by kernel_rfl
theorem k35_22 (m : Int) : allR (fun n => flEq (caseX Tryz.prog (hD m) (gl m) (ctlI Tryz.f35) Tryz.f35 ckD n) (dec n)) 3 176 = true := by kernel_rfl
theorem k35_23 (m : Int) : allR (fun n => flEq (caseX Tryz.prog (hD m) (gl m) (ctlI Tryz.f35) Tryz.f35 ckD n) (dec n)) 3 184 = true := by kernel_rfl
theorem k35_24 (m : Int) : allR (fun n => flEq (caseX Tryz.prog (hD m) (gl m) (ctlI Tryz.f35) Tryz.f35 ckD n) (dec n)) 3 192 = true := by kernel_rfl
theorem k35_25 (m : Int) : allR (fun n => flEq (caseX Tryz.prog (hD m) (gl m) (ctlI Tryz.f35) Tryz.f35 ckD n) (dec n)) 3 200 = true := by kernel_rfl
theorem k35_26 (m : Int) : allR (fun n => flEq (caseX Tryz.prog (hD m) (gl m) (ctlI Tryz.f35) Tryz.f35 ckD n) (dec n)) 3 208 = true := by kernel_rfl
theorem k35_27 (m : Int) : allR (fun n => flEq (caseX Tryz.prog (hD m) (gl m) (ctlI Tryz.f35) Tryz.f35 ckD n) (dec n)) 3 216 = true := by kernel_rfl
theorem k35_28 (m : Int) : allR (fun n => flEq (caseX Tryz.prog (hD m) (gl m) (ctlI Tryz.f35) Tryz.f35 ckD n) (dec n)) 3 224 = true := by kernel_rfl
theorem k35_29 (m : Int) : allR (fun n => flEq (caseX Tryz.prog (hD m) (gl m) (ctlI Tryz.f35) Tryz.f35 ckD n) (dec n)) 3 232 = true := by kernel_rfl
theorem k35_30 (m : Int) : allR (fun n => flEq (caseX Tryz.prog (hD m) (gl m) (ctlI Tryz.f35) Tryz.f35 ckD n) (dec n)) 3 240 = true := by kernel_rfl
theorem k35_31 (m : Int) : allR (fun n => flEq (caseX Tryz.prog (hD m) (gl m) (ctlI Tryz.f35) Tryz.f35 ckD n) (dec n)) 3 248 = true := by kernel_rfl
theorem k35 (m : Int) : allR (fun n => flEq (caseX Tryz.prog (hD m) (gl m) (ctlI Tryz.f35) Tryz.f35 ckD n) (dec n)) 8 0 = true := (allR_join (allR_join (allR_join (allR_join (allR_join (k35_0 m) (k35_1 m) rfl) (allR_join (k35_2 m) (k35_3 m) rfl) rfl) (allR_join (allR_join (k35_4 m) (k35_5 m) rfl) (allR_join (k35_6 m) (k35_7 m) rfl) rfl) rfl) (allR_join (allR_join (allR_join (k35_8 m) (k35_9 m) rfl) (allR_join (k35_10 m) (k35_11 m) rfl) rfl) (allR_join (allR_join (k35_12 m) (k35_13 m) rfl) (allR_join (k35_14 m) (k35_15 m) rfl) rfl) rfl) rfl) (allR_join (allR_join (allR_join (allR_join (k35_16 m) (k35_17 m) rfl) (allR_join (k35_18 m) (k35_19 m) rfl) rfl) (allR_join (allR_join (k35_20 m) (k35_21 m) rfl) (allR_join (k35_22 m) (k35_23 m) rfl) rfl) rfl) (allR_join (allR_join (allR_join (k35_24 m) (k35_25 m) rfl) (allR_join (k35_26 m) (k35_27 m) rfl) rfl) (allR_join (allR_join (k35_28 m) (k35_29 m) rfl) (allR_join (k35_30 m) (k35_31 m) rfl) rfl) rfl) rfl) rfl)
def s35 : Sum := sum8 ckD
def F35 : Fun := fun is _ => dec (is.getD 0 0).toNat
theorem c35 {m : Int} : Contract Tryz.prog (gl m) 35 s35 F35 := contract8 hD_ok Tryz.func35 (by kernel_rfl) (LoopsOk.nil rfl) rfl (all8 (k35 m))
theorem call35 : ∀ args w, (callFunc 35 args).run Tryz.prog w = .ok (.enter 35 args) w := callable_of Tryz.func35 (by kernel_rfl) (by kernel_rfl)

end
end Go.Proofs.YtghlmhlamoagoaaGreat.Fl
