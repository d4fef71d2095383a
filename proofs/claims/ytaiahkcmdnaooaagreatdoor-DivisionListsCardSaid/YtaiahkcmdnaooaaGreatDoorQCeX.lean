/- Small combinations of logarithms are not near nought: the certificate. -/
import Derived.Test.YtaiahkcmdnaooaaGreatDoorQDcY
import Derived.Test.YtaiahkcmdnaooaaGreatDoorQT
import Derived.Test.YtaiahkcmdnaooaaGreatDoorQTmC
set_option linter.unusedVariables false
set_option linter.unusedSimpArgs false
namespace Go.Vm
open Go Go.Am Go.Big
def cF:List Int->List Int->Int
 | a::r,b::t=>a*b+cF r t
 | _,_=>0
def IN (E:Int) (ws:Int):List Int->List Int->List Int->Bool
 | w::W,l::L,u::U=>decide (E*u=w+ws*l) && IN E ws W L U
 | [],[],[]=>true
 | _,_,_=>false
def Ti:List Int->Nat
 | []=>0
 | w::W=>w.natAbs+Ti W
theorem Nq {E ws:Int}:∀ {w L u:List Int},IN E ws w L u=true->∀ c:List Int,E*cF c u=cF c w+ws*cF c L
 | [],[],[],_,c=>by cases c <;> simp [cF]
 | w::W,l::L,u::U,h,[]=>by simp [cF]
 | w::W,l::L,u::U,h,x::c=>by
  simp only [IN,Z8,decide_eq_true_eq] at h;have ih:=Nq h.2 c;simp only [cF,Wl];rw [ih]
  have e1:E*(x*u)=x*w+ws*(x*l):=by
   have:E*(x*u)=x*(E*u):=by rw [W5]
   rw [this,h.1,Wl,W5 x ws l]
  rw [e1];omega
 | [],[],_::_,h,_=>by simp [IN] at h
 | [],_::_,_,h,_=>by simp [IN] at h
 | _::_,[],_,h,_=>by simp [IN] at h
 | _::_,_::_,[],h,_=>by simp [IN] at h
theorem Sb {B:Nat}:∀ (c w:List Int),(∀ x∈c,x.natAbs<=B)->(cF c w).natAbs<=Ti w*B
 | [],w,_=>by simp [cF]
 | x::c,[],_=>by simp [cF]
 | x::c,w::W,h=>by
  have h1:=h x ag;have ih:=Sb c W fun y hy=>h y (by simp [hy])
  have h2:(x*w).natAbs<=w.natAbs*B:=by
   rw [Zo,Zy];exact Z5 _ h1
  have h3:=Wo (x*w) (cF c W);simp only [cF,Ti,Nat.add_mul];omega
structure we where
 w:List Int
 s:Int
 u:List Int
def Tz (k E B G:Nat) (L:List Int) (r:we):Bool:=IN E r.s r.w L r.u && decide (Ti r.w*B+r.s.natAbs*G<E) && decide (r.u.length=k)
theorem row_zero {k E B G:Nat} {L:List Int} {r:we} (h:Tz k E B G L r=true) {c:List Int} (hc:∀ x∈c,x.natAbs<=B) (hL:(cF c L).natAbs<=G):cF c r.u=0:=by
 simp only [Tz,Z8,decide_eq_true_eq] at h;have h1:=Nq h.1.1 c;have h2:=Sb c r.w hc
 have h3:(r.s*cF c L).natAbs<=r.s.natAbs*G:=by
  rw [Zo];exact Z5 _ hL
 have h4:=Wo (cF c r.w) (r.s*cF c L);rw [<- h1,Zo,Int.natAbs_natCast] at h4;have h5:E*(cF c r.u).natAbs<E*1:=by rw [Yb];exact Zc (Z1 h4 (Nat.add_le_add h2 h3)) h.1.2
 have h6:=Xb h5;omega
def L6 (v:Int):List Int->List Int->List Int
 | x::a,y::b=>(v*x+y)::L6 v a b
 | _,_=>[]
def EG (k:Nat):List Int->List (List Int)->List Int
 | v::V,u::U=>L6 v u (EG k V U)
 | _,_=>List.replicate k 0
theorem J6 (v:Int):∀ (c a b:List Int),a.length=b.length->cF c (L6 v a b)=v*cF c a+cF c b
 | [],a,b,_=>by simp [cF]
 | x::c,[],[],_=>by simp [cF,L6]
 | x::c,y::a,z::b,h=>by
  simp only [L6,cF,J6 v c a b (by simpa using h),Wl];rw [W5 x v y];omega
 | x::c,[],_::_,h=>by simp at h
 | x::c,_::_,[],h=>by simp at h
theorem Ky (v:Int):∀ (a b:List Int),a.length=b.length->(L6 v a b).length=a.length
 | [],[],_=>rfl
 | x::a,y::b,h=>by simp [L6,Ky v a b (by simpa using h)]
 | [],_::_,h=>by simp at h
 | _::_,[],h=>by simp at h
theorem Km {k:Nat}:∀ (V:List Int) (U:List (List Int)),(∀ u∈U,u.length=k)->(EG k V U).length=k
 | [],_,_=>by simp [EG]
 | _::_,[],_=>by simp [EG]
 | v::V,u::U,h=>by
  have h1:=h u ag;have ih:=Km V U fun y hy=>h y (by simp [hy])
  rw [EG,Ky v _ _ (by rw [h1,ih]),h1]
theorem He:∀ (c:List Int) (k:Nat),cF c (List.replicate k 0)=0
 | [],k=>by simp [cF]
 | x::c,0=>by simp [cF]
 | x::c,k+1=>by simp [List.replicate_succ,cF,He c k]
theorem J5 {k:Nat} {c:List Int}:∀ (V:List Int) (U:List (List Int)),(∀ u∈U,u.length=k)->(∀ u∈U,cF c u=0)->cF c (EG k V U)=0
 | [],_,_,_=>by rw [EG];exact He c k;simp
 | _::_,[],_,_=>by rw [EG];exact He c k;simp
 | v::V,u::U,h,h0=>by
  have h1:=h u ag;have hl:=Km V U fun y hy=>h y (by simp [hy])
  rw [EG,J6 v _ _ _ (by rw [h1,hl]),h0 u ag,J5 V U (fun y hy=>h y (by simp [hy])) fun y hy=>h0 y (by simp [hy])];simp
def EO:Nat->List Int->Bool
 | 0,x::r=>decide (x=1) && r.all fun y=>decide (y=0)
 | i+1,x::r=>decide (x=0) && EO i r
 | _,[]=>false
theorem Ns:∀ (c r:List Int),(r.all fun y=>decide (y=0))=true->cF c r=0
 | [],r,_=>by simp [cF]
 | x::c,[],_=>by simp [cF]
 | x::c,y::r,h=>by
  simp only [List.all_cons,Z8,decide_eq_true_eq] at h;simp [cF,h.1,Ns c r h.2]
theorem J2:∀ (i:Nat) (c r:List Int),EO i r=true->cF c r=c.getD i 0
 | _,[],r,_=>by simp [cF]
 | i,x::c,[],h=>by cases i <;> simp [EO] at h
 | 0,x::c,y::r,h=>by
  simp only [EO,Z8,decide_eq_true_eq] at h;simp [cF,h.1,Ns c r h.2]
 | i+1,x::c,y::r,h=>by
  simp only [EO,Z8,decide_eq_true_eq] at h;simp [cF,h.1,J2 i c r h.2]
def Kp (k E B G:Nat) (L:List Int) (rs:List we) (V:List (List Int)):Bool:=
 rs.all (Tz k E B G L) && (List.range k).all fun i=>EO i (EG k (V.getD i []) (rs.map we.u))
theorem Pe {k E B G:Nat} {L:List Int} {rs:List we} {V:List (List Int)} (h:Kp k E B G L rs V=true) {c:List Int} (hk:c.length=k) (hc:∀ x∈c,x.natAbs<=B) (hL:(cF c L).natAbs<=G):∀ x∈c,x=0:=by
 simp only [Kp,Z8,Zu,Xj] at h;intro x hx;obtain ⟨i,hi,rfl⟩:=List.getElem_of_mem hx;have h1:=h.2 i aa;have h2:=J2 i c _ h1
 have hu:∀ u∈rs.map we.u,u.length=k:=by
  intro u hu;obtain ⟨r,hr,rfl⟩:=Zi.1 hu;have:=h.1 r hr;simp only [Tz,Z8,decide_eq_true_eq] at this;exact this.2
 have hz:∀ u∈rs.map we.u,cF c u=0:=by
  intro u hu;obtain ⟨r,hr,rfl⟩:=Zi.1 hu;exact row_zero (h.1 r hr) hc hL
 rw [J5 _ _ hu hz] at h2;rw [Zw,List.getElem?_eq_getElem hi] at h2;simpa using h2.symm
def c6P:List Int:=[2,3,5,7,11,13]
def c6E:Nat:=49614784997166684354356440537718907724664518830926052597504563849643971255504954919833347734491512257382489393255698957922075077162815239663036099654758093
def ac8:we:=⟨[-429684907064430635884713548526284398136750440240151633627270991646252110934279583518109208170890072173059957252012719268146472383,-574363685902068805515767317845714914837534458777698246546030963465399421722584750825841800946067324725919455794597202907650714121,239682664751044579988541147519446983012439651196620121180688085753545084198219673524259121840454877199861278833790608213415902674,490169592611154263938780316899978278808405480672551162133006080257504427486126943347802766926253129983746371607254066620887569298,71811715775640068681224631610670057458858997080415386752011858081716943546979212804136948205462437687236329264864522740212298311,0],103059907767718463631308043909722223789355679515715379399056304135065126571877681106872492632855700838224827057148240370083530499,[27850719270598031528536908140733767726118931125030666918173045185973172667860188885707249015707142008127010150542945896815030597,44142345662009950906473217222273266831075072962080801848929529359793809334236086475333529440262778693532659123357310119570130934,64667367537222437229042629185065593031871224642464366666187027301419473248433823599822660464071711192917462786579480814321303171,78186853827157949520348926870151630073461616463326005074218518844947088887169197112356103395848829463734133009661276810514943340,96347658846497915012712300521445224793371092227122571808163482414981061334202939766687213885286882331982494676527431449364289686,103059907767718463631308043909722223789355679515715379399056304135065126571877681106872492632855700838224827057148240370083530499]⟩
def ac7:we:=⟨[-43110747200229788296365260636693326005998588987096619954869089054940869338398094725802200010641296086196605105832980957245125655,162405213819669793962280190067435374586389715176527151916613855891737269200280303764552382736400233000768360548298555683139521758,404833116842662799679601649178355400660926903004233561661612971025013587777085795229643097745145208628735147328531801055314143179,111041075422621091632158397747438726108086130430760853307822806463253294952608654713106923376779599395037338621685641491793297240,751114691308491007748668853269695973420513785378074807391897306050369179397438954528492628305404969487940080008216657151865963332,0],439335950650499223824285612195393470246325022551191878410003311583587261215293995436663577376424099141531452560034943295952926440,[118725336477362934197880093343646014501343934845599469041083727014247031851791170553859127674418803453469127786092422160298088845,188175206202121859889432882816363887782346661714572063010637704676107062674493836631592005509899148225876310193399916097614344766,275671694341744385276577596747505913130930191927564112532120860072746952504310540494146625463073726744185906700462890412841271983,333304157732670041939306775454492193056446676199211536601177646460426738001468515014602863833869554283420903035275514456363706920,410722182943141407003769412369889904314694067485291001688614574091306745899476297183642619558161403275889246772917969773153848764,439335950650499223824285612195393470246325022551191878410003311583587261215293995436663577376424099141531452560034943295952926440]⟩
def ac6:we:=⟨[423300544883357628169939524369468130442632079304979463949839628809721770303266461002846953028568361004868161540605129199396988962,-285123376751573462547670869250854560875090665683045015576398439095041582316184627785715828691702533464772489911179761267994590743,96947262066998588060986165203869233724823904920882500261188216696259165091494962847118660572430053281916990492980910825907836463,465643235004406685744544157633672071145277353553705377795796544347470844368856705226921829685962331202833753120034719663594118792,497357904516595607875998002059903885126785617447941270967021510161371546662432400040919114810727834793445778668773252721855647984,0],-180283652357060891963341734855303342895290830340246672266453871380632466435841586997398361697779374621896239371486683254178315764,[-48719521486388647994543071022983664752401953327698105429919615640854155290405068663804326691156283768130439738516717942600735574,-77218614609004651574428397304640677475996238897591260101130280444561846829769936569179371527586743861652772671057466205927854567,-113123225708714309354486620684927528170189017992668492738825882325229155057119939468164799752889146239786133172214038272490076017,-136772988445104371502629183947232462461065058051394742325590385908796487752309402397614343938812666666327695704137115209330480400,-168541853074892062875215990314750670728957636274604138008149065504506005571792549457672536946639636538865197458036840004684847236,-180283652357060891963341734855303342895290830340246672266453871380632466435841586997398361697779374621896239371486683254178315764]⟩
def ac5:we:=⟨[159531764860778240831070386638950943452271761373434132084660956390820782904556733889389035868101853798907780845890566495180410339,-180032089505609209860233013367430784981760269288235028150272233242192422337617266459588273668717274570307548125948198250997292668,722405188777314026290228423729562622485744858435224802669416577753872228546103611468200035730938439621290214051003514987402640739,36000990527446309198347138185176770004549727162813405250184033037069968420659466845714636018818258590705256959225987168237527327,-513530963278479332513950828304824217548759301985671116846623159423663302335838371957263992970359945416442876540905495299997168979,0],255319271753262736240596140445048610660147532638867101688231609388924934549470991616555890522609786307994265712474064939372719006,[68997008788329030471651890466501605922759514891055642670684877087150164920370355947256414807736361809274411982318831819290316655,109357671591429570348446990333056286674650708604085047802155266884788489640797707697129937207705205929608965377164939790970996338,160206093168811422882351307075073345108793236944860528664460807374981125107010762526335062166141314315540499983610962933037671305,193699092229167270957497322859449866983386428115660752004044982491020316707187384266855752641467878819592456428991277772969768015,238690433793740921787683432401020148873693897194675168197188040134700797741225079582870389221277519794301971401466914493602027743,255319271753262736240596140445048610660147532638867101688231609388924934549470991616555890522609786307994265712474064939372719006]⟩
def ac4:we:=⟨[-115699792562142438908206584352388253201925118670869643467677761121403901270826956076992048101143363449386912529145981349866502063,317427049764918117651459939430012773888396636265162816931813707329297297607212420494030633298213235565148281059707087047705680636,193434686445219496297236067914981533486168164295004570116807459813592421290831775811834655808253617850393225983319103489553872396,202837281079699213149765844575736259095315944060610771048246603594817678831923528311990994562585284019313909165919139027091326019,712396033821932351616868822462490381124122861434848986507322852529824321381818847992924250352439865772839016498853430672476577578,0],-559799349675958243149023041528111243920862410527801771881216815243587809595474924713623051631744314549438039640085538859388599396,[-151279143106044767089815513101441711517432663573468295745730103529184394594309578953149631219854080461231028370958235909546346603,-239771768964310368334540681067837006910701812640817258499972247514604514083585800476914948116392521374550461284763470981445210872,-351259292548411181537919193080846329969869311789965849363701081249593626040362629485015730992591625205480064399957712684340931440,-424694247003411444855146851477514715910429813795428980139419467749957251963884059480211277433950262200983846038963016183720045833,-523339850901407777015626749765207552897634145012805488315350129174836181746914342580738630090328050384309992801104889853869345490,-559799349675958243149023041528111243920862410527801771881216815243587809595474924713623051631744314549438039640085538859388599396]⟩
def ac3:we:=⟨[5055866734460492751768211705120840041899237975357819210693409331339698965515480147528501481115754752617839044324011729516849701,486787547201009472714225339921947424312773995304900935777110745518896330428818341655420145150079917148786138178721516918708501081,-371534174410100712058891411833791071451799635399645312991342278868016149935319291647640646606371079436995270097792633094699176481,393721980329173825888087799515891191599337752448102016205280277872930140505877298858326928680171223865191903719984334491924693395,-63084654763227656672328807791060097510906557521183910417099407055995627556581145158467988204647214289892093141760285854902011444,0],190670751079263851920391443869175106364653954798408653798284743976804958109287908311498838592158724017167872232008297034176454231,[51526511874931147045440232338241213598995949992787563044839448908598157867674753125734229906134315822189450689289777891276847289,81667589114729220696364644972084636377741334870882808941607336583906478613318415308555618059845523855592319917464803454474367156,119640855553949931195359567588261908639127024902064358053829611605493236398712317439776796348104234246731657126690167143378539840,144653206728547542795275835596324454222228057800040851205468589670529400521174841730692856721557840943082114239897188601911150441,178252444378226976301420740075708316236838087700956238536026635050832749472600304434409083164366447419131491572849036279690272963,190670751079263851920391443869175106364653954798408653798284743976804958109287908311498838592158724017167872232008297034176454231]⟩
def c6R:List we:=[ac8,ac7,ac6,ac5,ac4,ac3]
def c6V:List (List Int):=[[-46477260228354403041493751,-2505632726243893919427248,58003229516542057431797140,15057295410276108388899585,-22306353907238312513566508,85438611908062355094321],[-25758522260144387158066355,6468867710079767890381561,-25120626473553828029748921,21017786884855784315416113,32137420031589499465207364,41475093799394621888898217],[-459074409943010318492609,10822464117439059568603833,-9756398330483923621702778,50098038355954498359498971,30562394815147993944910824,-11268065159585924320632353],[30420219925102840764344579,-14537544594484470209685826,25199522547478204684291748,18922988829788052015374945,13087795528133714359917485,53967158135058905287670651],[-2738906948132587203398157,33980339139849080327203319,12766138930794734537985420,-30249525070648516782987174,1661304814314177677032971,-19361663294179703925672167],[3362896834617060908787601,-29622662201364248515898145,-29845618333873557643178232,-30583155841379738043590236,-38396299710588350570382390,-33558954129317454890197270]]
def lgI (n:Nat) (p:Int):Int:=(lg p n:Int)
theorem BE:Kp 6 c6E 73786976294838206464 73786976294838206464 (c6P.map (lgI 512)) c6R c6V=true:=aE
def ko (h:Int->Int):List (Int × Int)->Int
 | []=>0
 | t::ts=>t.2*h t.1+ko h ts
def dU:List (Int × Int)->Nat
 | []=>0
 | t::ts=>t.2.natAbs+dU ts
def cfT:List (Int × Int)->Int->Int
 | [],_=>0
 | t::ts,c=>(if t.1=c then t.2 else 0)+cfT ts c
theorem qK (n:Nat):∀ ts:List (Int × Int),(aM n ts (0,0)).1<=ko (lgI n) ts∧ko (lgI n) ts<=(aM n ts (0,0)).2∧(aM n ts (0,0)).2-(aM n ts (0,0)).1<=dU ts
 | []=>by simp [aM,ko,dU]
 | t::ts=>by
  obtain ⟨h1,h2,h3⟩:=qK n ts;obtain ⟨x,hx⟩:∃ x:Int,x=lg t.1 n:=⟨_,rfl⟩;obtain ⟨y,hy⟩:∃ y:Int,y=if t.1=2 then x else x+1:=⟨_,rfl⟩
  have hxy:y=x∨y=x+1:=by rw [hy];split <;> simp
  have e:aM n (t::ts) (0,0)=aM n ts (if t.2<0 then (0+y*t.2,0+x*t.2) else (0+x*t.2,0+y*t.2)):=by
   rw [hy,hx];rfl
  have e2:ko (lgI n) (t::ts)=t.2*x+ko (lgI n) ts:=by rw [hx];rfl
  rw [e,e2,tK ts];simp only [dU,Xm]
  have m1:y*t.2=x*t.2∨y*t.2=x*t.2+t.2:=by
   rcases hxy with h | h
   ·left;rw [h]
   ·right;rw [h,Yd,Int.one_mul]
  rw [Y4 t.2 x];by_cases hn:t.2<0
  ·rw [if_pos hn];simp only;omega
  ·rw [if_neg hn];simp only;omega
theorem J4 (f g:Int->Int):∀ (P L:List Int),cF (P.map fun c=>f c+g c) L=cF (P.map f) L+cF (P.map g) L
 | [],L=>by simp [cF]
 | p::P,[]=>by simp [cF]
 | p::P,l::L=>by
  simp only [Zz,cF,J4 f g P L,Yd];omega
theorem J3 (h:Int->Int) (a z:Int):∀ P:List Int,a ∉ P->cF (P.map fun c=>if a=c then z else 0) (P.map h)=0
 | [],_=>by simp [cF]
 | p::P,hn=>by
  simp only [Zt,not_or] at hn;simp [cF,hn.1,J3 h a z P hn.2]
theorem Nr (h:Int->Int) (a z:Int):∀ P:List Int,P.Nodup->a∈P->cF (P.map fun c=>if a=c then z else 0) (P.map h)=z*h a
 | [],_,hm=>by simp at hm
 | p::P,hn,hm=>by
  rw [W8] at hn;by_cases e:a=p
  ·subst e;simp [cF,J3 h a z P hn.1]
  ·have:a∈P:=by simpa [e] using hm
   simp [cF,e,Nr h a z P hn.2 this]
theorem Ib (h:Int->Int) {P:List Int} (hP:P.Nodup):∀ ts:List (Int × Int),(∀ t∈ts,t.1∈P)->ko h ts=cF (P.map (cfT ts)) (P.map h)
 | [],_=>by
  have:∀ P:List Int,cF (P.map (cfT [])) (P.map h)=0:=by
   intro P
   induction P with
   | nil=>rfl
   | cons p P ih=>rw [Zz,Zz,cF,ih];simp [cfT]
  rw [this];rfl
 | t::ts,hm=>by
  rw [ko,Ib h hP ts fun u hu=>hm u (by simp [hu])];have:cfT (t::ts)=fun c=>(if t.1=c then t.2 else 0)+cfT ts c:=by funext c;rfl
  rw [this,J4,Nr h t.1 t.2 P hP (hm t ag)]
theorem Sz (c:Int):∀ ts:List (Int × Int),(cfT ts c).natAbs<=dU ts
 | []=>by simp [cfT]
 | t::ts=>by
  have:=Sz c ts;simp only [cfT,dU];split <;> omega
theorem BC {c:Int}:∀ ts:List (Int × Int),c ∉ ts.map Prod.fst->cfT ts c=0
 | [],_=>rfl
 | t::ts,h=>by
  simp only [Zz,Zt,not_or] at h;rw [cfT,if_neg (fun e=>h.1 e.symm),BC ts h.2];rfl
theorem zc {P:List Int} {k E B G n:Nat} {rs:List we} {V:List (List Int)} (hc:Kp k E B G (P.map (lgI n)) rs V=true) (hk:P.length=k) (hP:P.Nodup) {ts:List (Int × Int)} (hm:∀ t∈ts,t.1∈P) (hB:dU ts<=B) (hG:(ko (lgI n) ts).natAbs<=G):∀ c∈P,cfT ts c=0:=by
 intro c hcP
 have h1:=Pe hc (c:=P.map (cfT ts)) (by simpa using hk) (by
  intro x hx;obtain ⟨d,_,rfl⟩:=Zi.1 hx;exact Z1 (Sz d ts) hB) (by rw [<- Ib (lgI n) hP ts hm];exact hG)
 exact h1 _ (List.mem_map_of_mem hcP)
theorem Mr {P:List Int} {k E B G n:Nat} {rs:List we} {V:List (List Int)} (hc:Kp k E B G (P.map (lgI n)) rs V=true) (hk:P.length=k) (hP:P.Nodup) {ts:List (Int × Int)} (hm:∀ t∈ts,t.1∈P) (hn:(ts.map Prod.fst).Nodup) (h0:∀ t∈ts,t.2≠0) (hB:dU ts<=B) (hG:dU ts<=G) (hne:ts≠[]) :
  0<=(aM n ts (0,0)).1∨(aM n ts (0,0)).2<=0:=by
 obtain ⟨g1,g2,g3⟩:=qK n ts;by_cases hd:0<=(aM n ts (0,0)).1∨(aM n ts (0,0)).2<=0
 ·exact hd
 ·exfalso;have hz:=zc hc hk hP hm hB aa;cases ts with
  | nil=>exact hne rfl
  | cons t ts=>
   have h1:=hz t.1 (hm t ag);simp only [Zz,W8] at hn;rw [cfT,if_pos rfl,BC ts hn.1] at h1;exact h0 t ag aa
theorem EY {ts:List (Int × Int)}:∀ (r n j:Nat),j<r->(0<=(aM (n*2 ^ j) ts (0,0)).1∨(aM (n*2 ^ j) ts (0,0)).2<=0)->∃ s,yR ts r n=some s∧(s=1∨s = -1)
 | 0,n,j,hj,_=>by omega
 | r+1,n,j,hj,h=>by
  unfold yR;by_cases h1:0<=(aM n ts (0,0)).1
  ·exact ⟨1,by rw [if_pos h1],Or.inl rfl⟩
  ·by_cases h2:(aM n ts (0,0)).2<=0
   ·exact ⟨-1,by rw [if_neg h1,if_pos h2],Or.inr rfl⟩
   ·rw [if_neg h1,if_neg h2];cases j with
    | zero=>simp at h;omega
    | succ j=>
     refine EY r (n*2) j aa ?_;have:n*2*2 ^ j=n*2 ^ (j+1):=by rw [Nat.pow_succ,Nat.mul_assoc,Zy 2]
     rw [this];exact h
theorem Le (ts:List (Int × Int)) : -1<=mC ts∧mC ts<=1:=by
 unfold mC;split
 ·decide
 ·split
  ·decide
  ·split <;> decide
theorem Oe {ts:List (Int × Int)} (h:ts≠[]->∃ s,yR ts 6 64=some s∧(s=1∨s = -1)):∃ z,xk ts=some z∧-1<=z∧z<=1:=by
 cases ts with
 | nil=>exact ⟨0,rfl,ae,ae⟩
 | cons t ts=>
  unfold xk;simp only;by_cases hq:mC (t::ts)≠0
  ·rw [if_pos hq];exact ⟨_,rfl,Le _⟩
  ·rw [if_neg hq];obtain ⟨s,hs,hv⟩:=h ag;refine ⟨s,hs,?_⟩;omega
def lgC (n:Nat) (p:Int):Bool:=(GZ p.toNat n).isSome && decide (2 ^ n<=lg p n) && decide (lg p n+1<=4*2 ^ n)
theorem aaY:∀ p∈c6P,∀ i∈List.range 6,lgC (64*2 ^ i) p=true:=aE
theorem WH {x k:Nat} (hk:1<=k) (h:x<2 ^ (3*k)):ndg x<=k:=by
 refine bf (Z0 h ?_) hk;rw [Nat.pow_mul];exact Nat.pow_le_pow_left ae k
theorem Q0 {x m k:Nat} (hk:1<=k) (hm:m+2<=3*k) (h:x+1<=4*2 ^ m):ndg x<=k:=by
 refine WH hk (Z0 (Z0 (Nat.lt_succ_self x) h) ?_);have e:4*2 ^ m=2 ^ (m+2):=by rw [Yy,Zy]
 rw [e];exact Z2 ae hm
theorem SG:∀ p∈c6P,2<=p∧p<128:=ae
theorem ND:c6P.Nodup:=ae
theorem SH {p:Int} (hp:p∈c6P) {i:Nat} (hi:i<6):(GZ p.toNat (64*2 ^ i)).isSome=true∧2 ^ (64*2 ^ i)<=lg p (64*2 ^ i)∧lg p (64*2 ^ i)+1<=4*2 ^ (64*2 ^ i):=by
 have:=aaY p hp i (Xj.2 hi);simp only [lgC,Z8,decide_eq_true_eq] at this;exact ⟨this.1.1,this.1.2,this.2⟩
theorem Hr {ts:List (Int × Int)} (h:∀ t∈ts,t.1∈c6P):Ab ts:=by
 intro i hi t ht;obtain ⟨h1,h2,h3⟩:=SH (h t ht) hi;obtain ⟨p1,p2⟩:=SG _ (h t ht);refine ⟨p1,aa,h1,?_⟩;obtain ⟨k,hk⟩:∃ k,k=1500:=⟨_,rfl⟩;rw [<- hk];refine Q0 aa ?_ h3;have:2 ^ i<=2 ^ 5:=Z2 ae aa;omega
theorem xe {C:Nat}:∀ ts:List (Int × Int),(∀ t∈ts,t.2.natAbs<=C)->dU ts<=ts.length*C
 | [],_=>by simp [dU]
 | t::ts,h=>by
  have h1:=h t ag;have h2:=xe ts fun u hu=>h u (by simp [hu])
  simp only [dU,List.length_cons,Xt];omega
theorem XX {ts:List (Int × Int)} (hm:∀ t∈ts,t.1∈c6P) (hn:(ts.map Prod.fst).Nodup) (h0:∀ t∈ts,t.2≠0) (hl:ts.length<=6) (hb:∀ t∈ts,t.2.natAbs<9223372036854775808):∃ z,xk ts=some z∧-1<=z∧z<=1:=by
 refine Oe fun hne=>EY 6 64 3 ae ?_
 have h1:=xe (C:=9223372036854775808) ts fun t ht=>Wb (hb t ht)
 have h2:ts.length*9223372036854775808<=6*9223372036854775808:=Z3 _ hl;have hb1:dU ts<=73786976294838206464:=aa;have h3:=Mr (n:=512) BE rfl ND hm hn h0 hb1 hb1 hne;have e:64*2 ^ 3=512:=ae;rw [e];exact h3
def rp (b:Nat) (x:Q) (a:Int):Prop:=okQ x∧x.1*(b:Int)=a*(x.2:Int)
theorem GY (n:Int) {d:Nat} (hd:0<d):(gQ n d).1*(d:Int)=n*((gQ n d).2:Int)∧0<(gQ n d).2:=by
 obtain ⟨g,hg⟩:∃ g,g=Nat.gcd n.natAbs d:=⟨_,rfl⟩;have hg0:0<g:=by rw [hg];exact W0 _ hd
 obtain ⟨d',hd'⟩:g ∣ d:=by rw [hg];exact Nat.gcd_dvd_right ..
 obtain ⟨n',hn'⟩:(g:Int) ∣ n:=SA (by rw [hg];exact Wi ..)
 have e1:(gQ n d).1=n':=by
  simp only [gQ,<- hg];rw [hn'];exact Int.mul_ediv_cancel_left _ aa
 have e2:(gQ n d).2=d':=by
  simp only [gQ,<- hg];rw [hd'];exact Yq _ hg0
 rw [e1,e2];refine ⟨?_,?_⟩
 ·rw [hn',hd',Int.natCast_mul,<- Int.mul_assoc,Y4 n' g]
 ·rcases Ze d' with h | h
  ·rw [h] at hd';omega
  ·exact h
theorem P8 {n a:Int} {d b:Nat} (hd:0<d) (h:n*(b:Int)=a*(d:Int)):rp b (gQ n d) a:=by
 obtain ⟨h1,h2⟩:=GY n hd;refine ⟨rC n hd,?_⟩;have hd':(d:Int)≠0:=aa;refine Yi hd' ?_
 calc (gQ n d).1*(b:Int)*(d:Int)=(gQ n d).1*(d:Int)*(b:Int):=by rw [Y9]
  _=n*((gQ n d).2:Int)*(b:Int):=by rw [h1]
  _=n*(b:Int)*((gQ n d).2:Int):=by rw [Y9]
  _=a*((gQ n d).2:Int)*(d:Int):=by rw [h,Y9]
theorem K3 {b:Nat} {x y:Q} {a c:Int} (hx:rp b x a) (hy:rp b y c):rp b (pz x y) (a+c):=by
 have p1:=hx.1.1;have p2:=hy.1.1;refine P8 (Ys p1 p2) ?_;rw [Yd,Yd,Int.natCast_mul]
 have e1:x.1*(y.2:Int)*(b:Int)=a*((x.2:Int)*(y.2:Int)):=by
  rw [Y9,hx.2,Int.mul_assoc]
 have e2:y.1*(x.2:Int)*(b:Int)=c*((x.2:Int)*(y.2:Int)):=by
  rw [Y9,hy.2,Int.mul_assoc,Y4 (y.2:Int)]
 rw [e1,e2]
theorem GA {b:Nat} {x:Q} {a:Int} (z:Int) (hx:rp b x a):rp b (mI x (z,1)) (z*a):=by
 have p1:=hx.1.1;refine P8 (by simpa using p1) ?_;simp only [Yb];rw [Y9,hx.2,Int.mul_assoc,Y4 (x.2:Int),<- Int.mul_assoc,Y4 a]
theorem IJ {b:Nat} {x:Q} {a:Int} (m:Nat) (hx:rp b x a):rp (b*m) x (a*m):=
 ⟨hx.1,by rw [Int.natCast_mul,<- Int.mul_assoc,hx.2,Y9]⟩
theorem xo (b:Nat):rp b (0,1) 0:=⟨⟨ae,ae⟩,ag⟩
theorem yV {b:Nat} {x:Q} {a:Int} (h:rp b x a):x.2 ∣ b:=by
 have h1:x.1.natAbs*b=a.natAbs*x.2:=by
  have:=congrArg Int.natAbs h.2;simpa [Zo] using this
 have h2:x.2 ∣ x.1.natAbs*b:=⟨a.natAbs,by rw [h1,Zy]⟩;exact Nat.Coprime.dvd_of_dvd_mul_left (Nat.Coprime.symm h.1.2) h2
theorem P7 {b:Nat} {x:Q} {a:Int} (hb:0<b) (h:rp b x a):x.1.natAbs*(b / x.2)=a.natAbs:=by
 obtain ⟨m,hm⟩:=yV h
 have h1:x.1.natAbs*b=a.natAbs*x.2:=by
  have:=congrArg Int.natAbs h.2;simpa [Zo] using this
 have p:=h.1.1;rw [hm,Yq _ p];refine Nat.eq_of_mul_eq_mul_right p ?_;rw [<- h1,hm,Nat.mul_assoc,Zy m]
theorem P9 {b:Nat} {x:Q} {a:Int} (hb:0<b) (h:rp b x a):x.1.natAbs<=a.natAbs∧x.2<=b:=by
 have h1:=P7 hb h;have h2:=Ya hb (yV h);have h3:1<=b / x.2:=(Wr h.1.1).2 aa;refine ⟨?_,h2⟩;rw [<- h1];exact Zd _ h3
def bdL (b B:Nat) (s:List Q):Prop:=∀ x∈s,∃ a:Int,rp b x a∧a.natAbs<=B
theorem BG {b B C:Nat} {s:List Q} (h:bdL b B s) (hc:B<=C):bdL b C s:=fun x hx=>by
 obtain ⟨a,h1,h2⟩:=h x hx;exact ⟨a,h1,aa⟩
theorem yE {b B:Nat} {s:List Q} (m:Nat) (h:bdL b B s):bdL (b*m) (B*m) s:=fun x hx=>by
 obtain ⟨a,h1,h2⟩:=h x hx;refine ⟨a*m,IJ m h1,?_⟩;rw [Zo,Int.natAbs_natCast];exact Z3 _ h2
theorem BH {b A C:Nat} (z:Int):∀ {o s:List Q},bdL b A o->bdL b C s->bdL b (A+z.natAbs*C) (kw (z,1) o s)
 | x::o,y::s,ho,hs=>by
  obtain ⟨a,a1,a2⟩:=ho x ag;obtain ⟨c,c1,c2⟩:=hs y ag;have ih:=BH z (o:=o) (s:=s) (fun u hu=>ho u (by simp [hu])) fun u hu=>hs u (by simp [hu])
  intro u hu;simp only [kw,Zt] at hu;rcases hu with rfl | hu
  ·refine ⟨a+z*c,K3 a1 (GA z c1),?_⟩;have h1:=Wo a (z*c);rw [Zo] at h1;have h2:=Z5 z.natAbs c2;omega
  ·exact ih u hu
 | [],s,_,_=>by intro u hu;simp [kw] at hu
 | _::_,[],_,_=>by intro u hu;simp [kw] at hu
theorem Kw (b n:Nat):bdL b 0 (List.replicate n (0,1)):=fun x hx=>by
 rw [Y5] at hx;rw [hx.2];exact ⟨0,xo b,ag⟩
theorem vS {b B:Nat} {s:List Q} {n:Nat} {z:Int} (h:bdL b B s):bdL b (z.natAbs*B) (kI n [s] [(z,1)]):=by
 have:=BH z (Kw b n) h;simpa [kI,qU] using this
theorem Hw {b A B:Nat} {s t:List Q} {n:Nat} {z w:Int} (h:bdL b A s) (h':bdL b B t):bdL b (z.natAbs*A+w.natAbs*B) (kI n [s,t] [(z,1),(w,1)]):=by
 have:=BH w (BH z (Kw b n) h) h';simpa [kI,qU] using this
theorem SQ {r:List Int} {b B:Nat} (hr:∀ x∈r,x.natAbs<=B):bdL b (B*b) (ofQ r):=fun x hx=>by
 obtain ⟨y,hy,rfl⟩:=Zi.1 hx;refine ⟨y*b,⟨⟨Wd,ag⟩,ag⟩,?_⟩;rw [Zo,Int.natAbs_natCast];exact Z3 _ (hr y hy)
theorem DC {b B:Nat} {s:List Q} (hb:0<b) (h:bdL b B s):∀ x∈s,okQ x:=fun x hx=>by
 obtain ⟨a,h1,h2⟩:=h x hx;exact h1.1
theorem nY {b B:Nat} {s:List Q} (hb:0<b) (h:bdL b B s) (h1:b<1000000000000000000000000000000) (h2:B<1000000000000000000000000000000):okS s:=fun x hx=>by
 obtain ⟨a,r1,r2⟩:=h x hx;obtain ⟨l1,l2⟩:=P9 hb r1;exact ⟨r1.1,bf (d:=30) (by show _<10 ^ 30;omega) ae,bf (d:=30) (by show _<10 ^ 30;omega) ae⟩
theorem Nw {b:Nat}:∀ {s:List Q} {d:Nat},d ∣ b->(∀ x∈s,x.2 ∣ b)->fN d s ∣ b
 | [],d,h,_=>h
 | x::s,d,h,hs=>Nw (s:=s) (Nat.lcm_dvd h (hs x ag)) fun y hy=>hs y (by simp [hy])
theorem Hy {b B:Nat} {s:List Q} (h:bdL b B s):fN 1 s ∣ b:=Nw (Nat.one_dvd b) fun x hx=>by
 obtain ⟨a,r1,r2⟩:=h x hx;exact yV r1
theorem xd {b B d:Nat} (hb:0<b) (hd:d ∣ b):∀ {p:List Int} {s:List Q},bdL b B s->∀ t∈dI d p s,t.2.natAbs<=B
 | [],s,_,t,ht=>by simp [dI] at ht
 | p::ps,[],_,t,ht=>by simp [dI] at ht
 | p::ps,x::s,h,t,ht=>by
  obtain ⟨a,r1,r2⟩:=h x ag;have ih:=xd hb hd (p:=ps) (s:=s) fun y hy=>h y (by simp [hy])
  simp only [dI] at ht
  have hx:(x.1*((d / x.2:Nat):Int)).natAbs<=B:=by
   rw [Zo,Int.natAbs_natCast];have h1:=P7 hb r1;have h2:d / x.2<=b / x.2:=Nat.div_le_div_right (Ya hb hd);have h3:=Z5 x.1.natAbs h2;omega
  split at ht
  ·exact ih t ht
  ·simp only [Zt] at ht;rcases ht with rfl | ht
   ·exact hx
   ·exact ih t ht
theorem vr {d:Nat}:∀ {p:List Int} {s:List Q},∀ t∈dI d p s,t.1∈p
 | [],s,t,ht=>by simp [dI] at ht
 | p::ps,[],t,ht=>by simp [dI] at ht
 | p::ps,x::s,t,ht=>by
  have ih:=vr (d:=d) (p:=ps) (s:=s);simp only [dI] at ht;split at ht
  ·exact List.mem_cons_of_mem _ (ih t ht)
  ·simp only [Zt] at ht;rcases ht with rfl | ht
   ·simp
   ·exact List.mem_cons_of_mem _ (ih t ht)
theorem BW {d:Nat}:∀ {p:List Int} {s:List Q},p.Nodup->((dI d p s).map Prod.fst).Nodup
 | [],s,_=>by simp [dI]
 | p::ps,[],_=>by simp [dI]
 | p::ps,x::s,h=>by
  rw [W8] at h;have ih:=BW (d:=d) (p:=ps) (s:=s) h.2;simp only [dI];split
  ·exact ih
  ·simp only [Zz,W8];refine ⟨fun hm=>?_,ih⟩;obtain ⟨t,ht,e⟩:=Zi.1 hm;exact h.1 (by rw [<- e];exact vr t ht)
theorem BX {d:Nat} (hd:0<d):∀ {p:List Int} {s:List Q},(∀ x∈s,0<x.2∧x.2 ∣ d)->∀ t∈dI d p s,t.2≠0
 | [],s,_,t,ht=>by simp [dI] at ht
 | p::ps,[],_,t,ht=>by simp [dI] at ht
 | p::ps,x::s,h,t,ht=>by
  have ih:=BX hd (p:=ps) (s:=s) fun y hy=>h y (by simp [hy])
  obtain ⟨h1,h2⟩:=h x ag;have h3:0<d / x.2:=Wc (Ya hd h2) h1;simp only [dI] at ht;split at ht
  ·exact ih t ht
  ·rename_i hx;simp only [Zt] at ht;rcases ht with rfl | ht
   ·exact Wt hx aa
   ·exact ih t ht
def in6 (p:List Int):Prop:=p.Nodup∧p.length<=6∧∀ x∈p,x∈c6P
theorem uC {p:List Int} {s:List Q} (hp:in6 p):∀ t∈tq p s,t.1∈c6P:=fun t ht=>hp.2.2 _ (vr t ht)
theorem Ga {p:List Int} {s:List Q} {b B:Nat} (hp:in6 p) (hb:0<b) (h:bdL b B s) (hB:B<9223372036854775808):Lj (tq p s):=by
 refine ⟨?_,fun t ht=>?_⟩
 ·have:=pZ (d:=fN 1 s) p s;have:=hp.2.1;unfold tq;omega
 ·obtain ⟨h1,h2⟩:=SG _ (uC hp t ht);exact ⟨h1,h2,Zc (xd hb (Hy h) h t ht) hB⟩
theorem sg6 {p:List Int} {s:List Q} {b B:Nat} (hp:in6 p) (hb:0<b) (h:bdL b B s) (hB:B<9223372036854775808):∃ z,vU p s z∧-1<=z∧z<=1:=by
 have h1:=Ga hp hb h hB;have hd:∀ x∈s,0<x.2:=fun x hx=>(DC hb h x hx).1
 have hl:(tq p s).length<=6:=by
  have:=pZ (d:=fN 1 s) p s;have:=hp.2.1;unfold tq;omega
 obtain ⟨z,hz,z1⟩:=XX (uC hp) (BW hp.1) (BX (mK ae hd) fun x hx=>⟨hd x hx,(pi (s:=s) (d:=1)).2 x hx⟩) hl fun t ht=>(h1.2 t ht).2.2
 exact ⟨z,⟨GL h1,Hr (uC hp),hz⟩,z1⟩
theorem wP {most:Int}:∀ (ts:List (Int × Int)) (lo hi C:Int) (a:Int × Int),(∀ t∈ts,2<=t.1∧t.1<128)->lo<=hi->-C<=lo->hi<=C->gv most ts (lo,hi)=some a ->
  a.1<=a.2∧-(C+(dU ts:Int)*469762049)<=a.1∧a.2<=C+(dU ts:Int)*469762049
 | [],lo,hi,C,a,hl,h1,h2,h3,ha=>by
  simp only [gv,Z9] at ha;subst ha;simp [dU];omega
 | t::ts,lo,hi,C,a,hl,h1,h2,h3,ha=>by
  obtain ⟨l1,l2⟩:=hl t ag;simp only [gv] at ha;split at ha
  ·cases ha
  ·rename_i hc;split at ha
   ·cases ha
   ·rename_i f hf;have hflt:=Fu (p:=t.1.toNat) aa aa hf;obtain ⟨b,hb'⟩:∃ b:Int,b=(if t.1=2 then (f:Int) else f+1):=⟨_,rfl⟩;rw [<- hb'] at ha;have hbb:(f:Int)<=b∧b<=f+1:=by subst hb';split <;> omega
    obtain ⟨m,hm⟩:∃ m:Int,m=(t.2.natAbs:Int):=⟨_,rfl⟩
    have bd:∀ z:Int,0<=z->z<=469762049->-(m*469762049)<=t.2*z∧t.2*z<=m*469762049:=by
     intro z hz0 hz;have a1:t.2*z<=m*z:=Zr aa hz0;have a2:(-m)*z<=t.2*z:=Zr aa hz0;have a3:m*z<=m*469762049:=Yx hz aa;rw [Wy] at a2;omega
    have bx:=bd f aa aa;have by_:=bd b aa aa;have:=wP ts _ _ (C+m*469762049) a (fun t ht=>hl t (by simp [ht])) aa aa aa ha
    have e:((dU (t::ts):Nat):Int)*469762049=m*469762049+(dU ts:Int)*469762049:=by
     rw [dU,Int.natCast_add,Yd,<- hm]
    rw [e];omega
theorem Hf {a b:Int} {M:Nat} (hb:0<b) (h:a.natAbs<=M*b.natAbs):(a / b).natAbs<=M:=by
 have e:((M*b.natAbs:Nat):Int)=(M:Int)*b:=by rw [Int.natCast_mul];congr 1;omega
 have h1:a<=(M:Int)*b:=aa;have h2:(-(M:Int))*b<=a:=by rw [Wy];omega
 have h3 : -(M:Int)<=a / b:=(Ww hb).2 h2;have h4:a / b<=(M:Int):=Int.le_of_lt_add_one ((Int.ediv_lt_iff_lt_mul hb).2 (by rw [Yd,Int.one_mul];omega));omega
theorem IY {x y:Int × Int} {d g:Int} (h1:0<y.1) (h2:y.1<=y.2):yX x y d g=if x.1*g / ((if x.1<0 then y.1 else y.2)*d)=x.2*g / ((if x.2<0 then y.2 else y.1)*d) then some (x.1*g / ((if x.1<0 then y.1 else y.2)*d)) else none:=by
 unfold yX;have hn:¬ y.2<=0:=aa;simp only [hn,if_false];rw [if_neg aa]
theorem UP:∀ p∈c6P,(match u7 p.toNat with | some a=>decide (67108864<=a) | none=>true)=true:=aE
theorem CB {most:Int}:∀ (ts:List (Int × Int)) (a0 a:Int × Int),(∀ t∈ts,t.1∈c6P∧0<t.2)->gv most ts a0=some a->a0.1+ts.length*67108864<=a.1
 | [],a0,a,_,h=>by
  simp only [gv,Z9] at h;subst h;simp
 | t::ts,a0,a,hl,ha=>by
  obtain ⟨l1,l2⟩:=hl t ag;simp only [gv] at ha;split at ha
  ·cases ha
  ·split at ha
   ·cases ha
   ·rename_i f hf;have hc:=UP _ l1;rw [hf] at hc;have hc:67108864<=f:=of_decide_eq_true hc;obtain ⟨b,hb'⟩:∃ b:Int,b=(if t.1=2 then (f:Int) else f+1):=⟨_,rfl⟩;rw [<- hb'] at ha;have hbb:(f:Int)<=b:=by subst hb';split <;> omega
    have ih:=CB ts _ a (fun u hu=>hl u (by simp [hu])) ha
    have m1:(67108864:Int)<=t.2*f:=by
     have:=Zr (a:=1) (b:=t.2) (c:=(f:Int)) aa aa;omega
    have m2:(67108864:Int)<=t.2*b:=by
     have:=Zr (a:=1) (b:=t.2) (c:=b) aa aa;omega
    simp only [List.length_cons,Int.natCast_add,Yd] at ih ⊢;omega
theorem Ov {tx ty:List (Int × Int)} {d g:Nat} {q:Int} (hx:Lj tx) (hy6:∀ t∈ty,t.1∈c6P∧0<t.2) (ne:ty≠[]) (hd:0<d) (h:Ei tx ty d g=some q):q.natAbs<=8*dU tx*g:=by
 unfold Ei at h;split at h
 ·rename_i x y hx' hy';split at h
  ·cases h
  ·obtain ⟨a1,a2,a3⟩:=wP tx 0 0 0 x (fun t ht=>⟨(hx.2 t ht).1,(hx.2 t ht).2.1⟩) aa aa aa hx';obtain ⟨b1,_,_⟩:=wP ty 0 0 0 y (fun t ht=>SG _ (hy6 t ht).1) aa aa aa hy';have b2:=CB ty (0,0) y hy6 hy'
   have hlen:1<=ty.length:=by cases ty with
    | nil=>exact absurd rfl ne
    | cons t ts=>simp
   have b3:(67108864:Int)<=y.1:=by
    have:=Zr (a:=1) (b:=(ty.length:Int)) (c:=67108864) aa aa;simp only at b2;omega
   rw [IY aa b1] at h;obtain ⟨lo,hlo⟩:∃ lo,lo=if x.1<0 then y.1 else y.2:=⟨_,rfl⟩
   rw [<- hlo] at h;obtain ⟨hi,hhi⟩:∃ hi,hi=if x.2<0 then y.2 else y.1:=⟨_,rfl⟩
   rw [<- hhi] at h;by_cases hc:x.1*(g:Int) / (lo*d)=x.2*g / (hi*d)
   ·rw [if_pos hc] at h;simp only [Z9] at h;rw [<- h];have lo0:67108864<=lo:=by rw [hlo];split <;> omega
    refine Hf (Wx aa aa) ?_;rw [Zo,Zo,Int.natAbs_natCast,Int.natAbs_natCast]
    have e0:x.1.natAbs<=dU tx*469762049:=by
     have e:((dU tx*469762049:Nat):Int)=(dU tx:Int)*469762049:=by rw [Int.natCast_mul];rfl
     omega
    have e1:x.1.natAbs*g<=dU tx*469762049*g:=Z3 _ e0
    have e2:dU tx*469762049*g<=8*dU tx*g*67108864:=by
     have:8*dU tx*g*67108864=dU tx*536870912*g:=by
      rw [Zy 8,Wv _ 8 g,Nat.mul_assoc (dU tx*g),Wv (dU tx) 536870912 g]
     rw [this];exact Z3 _ (Z5 _ ae)
    have e3:67108864<=lo.natAbs*d:=Z1 aa (Zd _ hd);exact Z1 e1 (Z1 e2 (Z5 _ e3))
   ·rw [if_neg hc] at h;cases h
 ·cases h
def smT (z:Int) (ts:List (Int × Int)):List (Int × Int):=ts.map fun t=>(t.1,z*t.2)
theorem Gf (h:Int->Int) (z:Int):∀ ts,ko h (smT z ts)=z*ko h ts
 | []=>by simp [smT,ko]
 | t::ts=>by
  have:=Gf h z ts;unfold smT at this;simp only [smT,Zz,ko,this,Wl,Int.mul_assoc]
theorem KT (z c:Int):∀ ts,cfT (smT z ts) c=z*cfT ts c
 | []=>by simp [smT,cfT]
 | t::ts=>by
  have:=KT z c ts;unfold smT at this;simp only [smT,Zz,cfT,this,Wl];split <;> simp
theorem PS (z:Int):∀ ts,dU (smT z ts)=z.natAbs*dU ts
 | []=>by simp [smT,dU]
 | t::ts=>by
  have:=PS z ts;unfold smT at this;simp only [smT,Zz,dU,this,Zp,Zo]
theorem NJ (h:Int->Int):∀ a b,ko h (a++b)=ko h a+ko h b
 | [],b=>by simp [ko]
 | t::a,b=>by simp only [List.cons_append,ko,NJ h a b];omega
theorem SX (c:Int):∀ a b,cfT (a++b) c=cfT a c+cfT b c
 | [],b=>by simp [cfT]
 | t::a,b=>by simp only [List.cons_append,cfT,SX c a b];omega
theorem VG:∀ a b,dU (a++b)=dU a+dU b
 | [],b=>by simp [dU]
 | t::a,b=>by simp only [List.cons_append,dU,VG a b];omega
theorem QE {x y:Int × Int} {d g X Y:Int} {Sx Sy:Nat} (d0:0<d) (g0:0<g) (y0:0<y.1) (x1:x.1<=X) (x2:X<=x.2) (x3:x.2-x.1<=Sx) (y1:y.1<=Y) (y2:Y<=y.2) (y3:y.2-y.1<=Sy) :
  (∃ q,yX x y d g=some q∧q=x.2*g / ((if x.2<0 then y.2 else y.1)*d))∨yX x y d g=none∧∃ q:Int,q=x.2*g / ((if x.2<0 then y.2 else y.1)*d)∧(g*X-q*d*Y).natAbs<=g.natAbs*Sx+(q*d).natAbs*Sy:=by
 rw [IY y0 aa];obtain ⟨lo,hlo⟩:∃ lo,lo=if x.1<0 then y.1 else y.2:=⟨_,rfl⟩
 obtain ⟨hi,hhi⟩:∃ hi,hi=if x.2<0 then y.2 else y.1:=⟨_,rfl⟩
 rw [<- hlo,<- hhi];have lo0:y.1<=lo∧lo<=y.2:=by rw [hlo];split <;> omega
 have hi0:y.1<=hi∧hi<=y.2:=by rw [hhi];split <;> omega
 have pl:0<lo*d:=Wx aa d0;have ph:0<hi*d:=Wx aa d0;by_cases he:x.1*g / (lo*d)=x.2*g / (hi*d)
 ·left;exact ⟨_,by rw [if_pos he,he],rfl⟩
 ·right;refine ⟨if_neg he,_,rfl,?_⟩;obtain ⟨q1,hq1⟩:∃ q1,q1=x.1*g / (lo*d):=⟨_,rfl⟩;obtain ⟨q,hq⟩:∃ q,q=x.2*g / (hi*d):=⟨_,rfl⟩;rw [<- hq1,<- hq] at he;rw [<- hq];have g1:q1*(lo*d)<=x.1*g:=(Ww pl).1 aa;have hxg:x.1*g<=x.2*g:=Zr aa aa
  have hle:q1<=q:=by
   rw [hq];refine (Ww ph).2 ?_;refine Int.le_trans ?_ (Int.le_trans g1 hxg);by_cases hs:0<=q1
   ·have hx0:¬ x.1<0:=by
     intro hneg;have a1:0<=q1*(lo*d):=Xg hs aa;have a2:x.1*g<0:=Int.mul_neg_of_neg_of_pos hneg g0;omega
    rw [if_neg hx0] at hlo;refine Yx (Zr aa aa) hs
   ·have hx0:x.1<0:=by
     have:x.1*g<0*(lo*d):=(Int.ediv_lt_iff_lt_mul pl).1 aa;rw [Int.zero_mul] at this;by_cases hh:x.1<0
     ·exact hh
     ·have:=Xg (a:=x.1) (b:=g) aa aa;omega
    rw [if_pos hx0] at hlo;have a3:lo*d<=hi*d:=Zr aa aa;exact Int.mul_le_mul_of_nonpos_left aa a3
  have g2:x.1*g<q*(lo*d):=(Int.ediv_lt_iff_lt_mul pl).1 aa;have g3:q*(hi*d)<=x.2*g:=(Ww ph).1 aa;obtain ⟨u,hu⟩:∃ u,u=q*d:=⟨_,rfl⟩;have e1:q*(lo*d)=u*lo:=by rw [hu,Y4 lo,Int.mul_assoc]
  have e2:q*(hi*d)=u*hi:=by rw [hu,Y4 hi,Int.mul_assoc]
  rw [e1] at g2;rw [e2] at g3;rw [<- hu]
  have m1:(u*(lo-Y)).natAbs<=u.natAbs*Sy:=by
   rw [Zo];exact Z5 _ aa
  have m2:(u*(hi-Y)).natAbs<=u.natAbs*Sy:=by
   rw [Zo];exact Z5 _ aa
  rw [Int.mul_sub] at m1 m2
  have k1:g*X<=x.1*g+g*Sx:=by
   have:g*X<=g*(x.1+Sx):=Yx aa aa;rw [Wl,Y4 g x.1] at this;exact this
  have k2:x.2*g-g*Sx<=g*X:=by
   have:g*(x.2-Sx)<=g*X:=Yx aa aa;rw [Int.mul_sub,Y4 g x.2] at this;exact this
  have e3:((g.natAbs*Sx:Nat):Int)=g*Sx:=by rw [Int.natCast_mul];congr 1;omega
  omega
theorem Nl {n:Nat}:∀ ts:List (Int × Int),(∀ t∈ts,lg t.1 n+1<=4*2 ^ n)->(aM n ts (0,0)).1.natAbs<=dU ts*(4*2 ^ n)∧(aM n ts (0,0)).2.natAbs<=dU ts*(4*2 ^ n)
 | [],_=>by simp [aM,dU]
 | t::ts,h=>by
  obtain ⟨h1,h2⟩:=Nl ts fun u hu=>h u (by simp [hu])
  have h3:=h t ag;obtain ⟨P,hP⟩:∃ P,P=4*2 ^ n:=⟨_,rfl⟩;rw [<- hP] at h1 h2 h3 ⊢;obtain ⟨x,hx⟩:∃ x:Int,x=lg t.1 n:=⟨_,rfl⟩;obtain ⟨y,hy⟩:∃ y:Int,y=if t.1=2 then x else x+1:=⟨_,rfl⟩
  have hxy:y=x∨y=x+1:=by rw [hy];split <;> simp
  have e:aM n (t::ts) (0,0)=aM n ts (if t.2<0 then (0+y*t.2,0+x*t.2) else (0+x*t.2,0+y*t.2)):=by
   rw [hy,hx];rfl
  rw [e,tK ts];simp only [dU,Xm,Nat.add_mul]
  have m1:(x*t.2).natAbs<=t.2.natAbs*P:=by
   rw [Zo,Zy];exact Z5 _ aa
  have m2:(y*t.2).natAbs<=t.2.natAbs*P:=by
   rw [Zo,Zy];exact Z5 _ aa
  split <;> simp only <;> omega
theorem J0 {n:Nat}:∀ ts:List (Int × Int),(∀ t∈ts,0<t.2∧2 ^ n<=lg t.1 n)->ts≠[]->((2 ^ n:Nat):Int)<=(aM n ts (0,0)).1
 | [],_,h=>(h rfl).elim
 | t::ts,h,_=>by
  obtain ⟨h1,h2⟩:=h t ag;obtain ⟨P,hP⟩:∃ P:Nat,P=2 ^ n:=⟨_,rfl⟩
  have e:aM n (t::ts) (0,0)=aM n ts (0+(lg t.1 n:Int)*t.2,0+(if t.1=2 then (lg t.1 n:Int) else (lg t.1 n:Int)+1)*t.2):=by
   have:¬ t.2<0:=aa;simp only [aM,this,if_false]
  rw [e,tK ts];simp only [Xm]
  have h3:(lg t.1 n:Int)<=lg t.1 n*t.2:=by
   have:=Yx (a:=1) (b:=t.2) (c:=(lg t.1 n:Int)) aa aa;simpa using this
  have h4:0<=(aM n ts (0,0)).1:=by
   by_cases ht:ts=[]
   ·rw [ht];simp [aM]
   ·have:=J0 ts (fun u hu=>h u (by simp [hu])) ht;omega
  rw [<- hP] at h2 ⊢;omega
theorem RU {tx ty:List (Int × Int)} {d g:Nat} {i:Nat} (hi:i<6) (d0:0<d) (g0:0<g) (hx:∀ t∈tx,t.1∈c6P) (hy:∀ t∈ty,t.1∈c6P∧0<t.2) (ne:ty≠[]) :
  (∃ q:Int,yX (aM (64*2 ^ i) tx (0,0)) (aM (64*2 ^ i) ty (0,0)) d g=some q∧q.natAbs<=4*dU tx*g)∨(yX (aM (64*2 ^ i) tx (0,0)) (aM (64*2 ^ i) ty (0,0)) d g=none∧∃ q:Int,q.natAbs<=4*dU tx*g∧((g:Int)*ko (lgI (64*2 ^ i)) tx-q*d*ko (lgI (64*2 ^ i)) ty).natAbs<=g*dU tx+(q*d).natAbs*dU ty):=by
 obtain ⟨n,hn⟩:∃ n,n=64*2 ^ i:=⟨_,rfl⟩;have hx1:∀ t∈tx,lg t.1 n+1<=4*2 ^ n:=fun t ht=>by rw [hn];exact (SH (hx t ht) hi).2.2
 have hy1:∀ t∈ty,0<t.2∧2 ^ n<=lg t.1 n:=fun t ht=>by rw [hn];exact ⟨(hy t ht).2,(SH (hy t ht).1 hi).2.1⟩
 rw [<- hn];obtain ⟨x1,x2,x3⟩:=qK n tx;obtain ⟨y1,y2,y3⟩:=qK n ty;obtain ⟨b1,b2⟩:=Nl tx hx1;have yp:=J0 ty hy1 ne;have p2:0<2 ^ n:=Yk ae;obtain ⟨P,hP⟩:∃ P:Nat,P=2 ^ n:=⟨_,rfl⟩;rw [<- hP] at b1 b2 yp p2;have y0:0<(aM n ty (0,0)).1:=aa;have hh:=QE (d:=(d:Int)) (g:=(g:Int)) aa aa y0 x1 x2 x3 y1 y2 y3
 obtain ⟨x,hx'⟩:∃ x,x=aM n tx (0,0):=⟨_,rfl⟩;obtain ⟨y,hy'⟩:∃ y,y=aM n ty (0,0):=⟨_,rfl⟩;rw [<- hx'] at x1 x2 x3 b1 b2 hh ⊢;rw [<- hy'] at y1 y2 y3 yp y0 hh ⊢
 have hb:∀ q,q=x.2*(g:Int) / ((if x.2<0 then y.2 else y.1)*(d:Int))->q.natAbs<=4*dU tx*g:=by
  intro q hq;rw [hq];obtain ⟨hi',hhi⟩:∃ hi',hi'=if x.2<0 then y.2 else y.1:=⟨_,rfl⟩
  rw [<- hhi];have hi0:(P:Int)<=hi':=by rw [hhi];split <;> omega
  refine Hf (Wx aa aa) ?_;rw [Zo,Zo,Int.natAbs_natCast,Int.natAbs_natCast];have e1:x.2.natAbs*g<=dU tx*(4*P)*g:=Z3 _ b2
  have e2:dU tx*(4*P)*g=4*dU tx*g*P:=by
   rw [Zy 4 P,<- Nat.mul_assoc,Zy 4 (dU tx),Wv (dU tx) P 4,Wv _ P g]
  have e3:P<=hi'.natAbs*d:=Z1 aa (Zd _ d0);rw [e2] at e1;exact Z1 e1 (Z5 _ e3)
 rcases hh with ⟨q,h1,h2⟩ | ⟨h0,q,h1,h2⟩
 ·exact Or.inl ⟨q,h1,hb q h2⟩
 ·exact Or.inr ⟨h0,q,hb q h1,by simpa using h2⟩
theorem Uj {tx ty:List (Int × Int)} {d g:Nat} (d0:0<d) (g0:0<g) (hx:∀ t∈tx,t.1∈c6P) (hy:∀ t∈ty,t.1∈c6P∧0<t.2) (ne:ty≠[]) (hb:g*dU tx+4*dU tx*g*d*dU ty<=73786976294838206464) :
  (∃ q:Int,∀ c∈c6P,(g:Int)*cfT tx c=q*d*cfT ty c)∨∀ r i,i+r=6->i<=3->∃ q,G6 tx ty d g r (64*2 ^ i)=some q∧q.natAbs<=4*dU tx*g∧∃ j,j<=3∧yX (aM (64*2 ^ j) tx (0,0)) (aM (64*2 ^ j) ty (0,0)) d g=some q:=by
 by_cases hp:∃ q:Int,∀ c∈c6P,(g:Int)*cfT tx c=q*d*cfT ty c
 ·exact Or.inl hp
 ·right;intro r
  induction r with
  | zero=>intro i h1 h2;omega
  | succ r ih=>
   intro i h1 h2;unfold G6;rcases RU (d:=d) (g:=g) (i:=i) aa d0 g0 hx hy ne with ⟨q,q1,q2⟩ | ⟨q0,q,q1,h⟩
   ·exact ⟨q,by rw [q1],q2,i,h2,q1⟩
   ·rw [q0];simp only;by_cases hi:i=3
    ·exfalso;subst hi;have e:64*2 ^ 3=512:=ae;rw [e] at h
     ·refine hp ⟨q,fun c hc=>?_⟩
      have hm:∀ t∈smT g tx++smT (-(q*d)) ty,t.1∈c6P:=by
       intro t ht;rcases Xa.1 ht with ht | ht
       ·obtain ⟨u,hu,rfl⟩:=Zi.1 ht;exact hx u hu
       ·obtain ⟨u,hu,rfl⟩:=Zi.1 ht;exact (hy u hu).1
      have hS:dU (smT g tx++smT (-(q*d)) ty)=g*dU tx+(q*d).natAbs*dU ty:=by
       rw [VG,PS,PS,X8,Int.natAbs_natCast]
      have hle:g*dU tx+(q*d).natAbs*dU ty<=73786976294838206464:=by
       refine Z1 (Nat.add_le_add_left (Z3 _ ?_) _) hb;rw [Zo,Int.natAbs_natCast];exact Z3 _ q1
      have hs:ko (lgI 512) (smT g tx++smT (-(q*d)) ty)=(g:Int)*ko (lgI 512) tx-q*d*ko (lgI 512) ty:=by
       rw [NJ,Gf,Gf,Wy];omega
      have:=zc (n:=512) BE rfl ND hm (by rw [hS];exact hle) (by rw [hs];exact Z1 h hle) c hc;rw [SX,KT,KT,Wy] at this;omega
    ·have:=ih (i+1) aa aa;have e:64*2 ^ i*2=64*2 ^ (i+1):=by rw [Nat.pow_succ,Nat.mul_assoc]
     rw [e];exact this
theorem T1 (n d:Int):(uX n d).1.natAbs<=n.natAbs:=by
 unfold uX;split
 ·have:=(Bq (-n) d.natAbs).1;rwa [X8] at this
 ·exact (Bq n d.natAbs).1
theorem IV {A m:Nat}:∀ {a b:List Q} {k:Q},(∀ x∈a,0<x.2∧x.1.natAbs<=A)->(∀ y∈b,0<y.2∧y.2<=m)->0<k.2->k.1.natAbs<=A*m->0<(iB k a b).2∧(iB k a b).1.natAbs<=A*m
 | [],b,k,_,_,h1,h2=>by simpa [iB] using ⟨h1,h2⟩
 | x::a,[],k,_,_,h1,h2=>by simpa [iB] using ⟨h1,h2⟩
 | x::a,y::b,k,ha,hb,h1,h2=>by
  obtain ⟨x1,x2⟩:=ha x ag;obtain ⟨y1,y2⟩:=hb y ag;simp only [iB];refine IV (fun u hu=>ha u (by simp [hu])) (fun u hu=>hb u (by simp [hu])) ?_ ?_
  ·split
   ·exact h1
   ·rename_i h;exact (MX (Wt aa h)).1
  ·split
   ·exact h2
   ·unfold AF;refine Z1 (T1 _ _) ?_;rw [Zo,Int.natAbs_natCast];exact Zq x2 y2
def Lt (q:Int):List Q->List Q->Prop
 | x::a,y::b=>x.1*(y.2:Int)=q*(y.1*(x.2:Int))∧Lt q a b
 | _,_=>True
theorem jH {x:Q} (hx:okQ x) {n:Int} {d:Nat} (hd:0<d) (h:x.1*(d:Int)=n*(x.2:Int)):gQ n d=x:=by
 obtain ⟨h1,h2⟩:=GY n hd;have ho:=rC n hd;obtain ⟨y,hy⟩:∃ y,y=gQ n d:=⟨_,rfl⟩;rw [<- hy] at h1 h2 ho ⊢;have hd':(d:Int)≠0:=aa
 have e:x.1*(y.2:Int)=y.1*(x.2:Int):=by
  refine Yi hd' ?_;rw [Y9,h,Y9 y.1,h1,Y9]
 have e1:x.2 ∣ y.2:=yV (b:=y.2) (a:=y.1) ⟨hx,e⟩;have e2:y.2 ∣ x.2:=yV (b:=x.2) (a:=x.1) ⟨ho,e.symm⟩;have e3:x.2=y.2:=Nat.dvd_antisymm e1 e2;rw [e3] at e;have e4:=Yi aa e;exact Prod.ext e4.symm e3.symm
theorem GD {q:Int}:∀ {a b:List Q} {k:Q},(∀ x∈a,okQ x)->(∀ y∈b,okQ y)->Lt q a b->(k=(q,1)∨True)->iB k a b=(q,1)∨(iB k a b=k∧∀ i,i<a.length->∀ y,b[i]? = some y->y.1=0)
 | [],b,k,_,_,_,_=>Or.inr ⟨by simp [iB],fun i h=>by simp at h⟩
 | x::a,[],k,_,_,_,_=>Or.inr ⟨by simp [iB],fun i h y hy=>by simp at hy⟩
 | x::a,y::b,k,ha,hb,hm,_=>by
  have hx:=ha x ag;have hy:=hb y ag;obtain ⟨m1,m2⟩:=hm;simp only [iB];by_cases h0:y.1=0
  ·rw [if_pos h0];rcases GD (k:=k) (fun u hu=>ha u (by simp [hu])) (fun u hu=>hb u (by simp [hu])) m2 (Or.inr trivial) with h | ⟨h,h'⟩
   ·exact Or.inl h
   ·refine Or.inr ⟨h,fun i hi z hz=>?_⟩;cases i with
    | zero=>simp at hz;rw [<- hz];exact h0
    | succ i=>exact h' i (by simpa using hi) z (by simpa using hz)
  ·rw [if_neg h0]
   have e:AF x y=(q,1):=by
    unfold AF uX;rw [m1];have p1:=hx.1;by_cases hn:(x.2:Int)*y.1<0
    ·rw [if_pos hn];refine jH ⟨Wd,ag⟩ aa ?_;have:(((x.2:Int)*y.1).natAbs:Int) = -((x.2:Int)*y.1):=aa;rw [this,Y4 (x.2:Int)];simp [Int.mul_neg]
    ·rw [if_neg hn];have hne:(x.2:Int)*y.1≠0:=Wt aa h0;refine jH ⟨Wd,ag⟩ aa ?_;have:(((x.2:Int)*y.1).natAbs:Int)=(x.2:Int)*y.1:=aa;rw [this,Y4 (x.2:Int)];simp
   rw [e];rcases GD (k:=(q,1)) (fun u hu=>ha u (by simp [hu])) (fun u hu=>hb u (by simp [hu])) m2 (Or.inr trivial) with h | ⟨h,h'⟩
   ·exact Or.inl h
   ·exact Or.inl h
theorem MF {q:Int}:∀ {a b:List Q},(∀ x∈a,okQ x)->(∀ y∈b,okQ y)->Lt q a b->kt (q,1) a b=true
 | [],b,_,_,_=>by simp [kt]
 | x::a,[],_,_,_=>by simp [kt]
 | x::a,y::b,ha,hb,hm=>by
  have hx:=ha x ag;have hy:=hb y ag;obtain ⟨m1,m2⟩:=hm;simp only [kt,Z8,decide_eq_true_eq];refine ⟨?_,MF (fun u hu=>ha u (by simp [hu])) (fun u hu=>hb u (by simp [hu])) m2⟩;unfold mI;refine jH hx (by have:=hy.1;omega) ?_;simp only [Xs];rw [m1,Int.mul_assoc]
theorem MG {q:Int}:∀ {a b:List Q},a.length=b.length->(∀ x∈a,okQ x)->(∀ y∈b,okQ y)->Lt q a b->(∀ i,i<a.length->∀ y,b[i]? = some y->y.1=0)->kt (0,1) a b=true
 | [],b,_,_,_,_,_=>by simp [kt]
 | x::a,[],_,_,_,_,_=>by simp [kt]
 | x::a,y::b,hl,ha,hb,hm,h0=>by
  have hx:=ha x ag;have hy:=hb y ag;obtain ⟨m1,m2⟩:=hm;have y0:y.1=0:=h0 0 ag y ag;simp only [kt,Z8,decide_eq_true_eq];refine ⟨?_,MG (by simpa using hl) (fun u hu=>ha u (by simp [hu])) (fun u hu=>hb u (by simp [hu])) m2 fun i hi z hz=>h0 (i+1) (by simpa using hi) z (by simpa using hz)⟩;unfold mI;have p:=hy.1;refine jH hx aa ?_
  rw [y0] at m1;simp only [Int.zero_mul,Int.mul_zero,Xs] at m1 ⊢;exact m1
theorem TD {q:Int} {a b:List Q} (hl:a.length=b.length) (ha:∀ x∈a,okQ x) (hb:∀ y∈b,okQ y) (hm:Lt q a b):kt (iB (0,1) a b) a b=true:=by
 rcases GD (k:=(0,1)) ha hb hm (Or.inr trivial) with h | ⟨h,h'⟩
 ·rw [h];exact MF ha hb hm
 ·rw [h];exact MG hl ha hb hm h'
theorem Sw {d g:Nat} {q:Int} (d0:0<d) (g0:0<g):∀ {p:List Int} {a b:List Q},p.Nodup->a.length=p.length->b.length=p.length->(∀ x∈a,0<x.2∧x.2 ∣ d)->(∀ y∈b,0<y.2∧y.2 ∣ g) ->
  (∀ c∈p,(g:Int)*cfT (dI d p a) c=q*d*cfT (dI g p b) c)->Lt q a b
 | [],a,b,_,la,lb,_,_,_=>by
  have:a=[]:=Yc.1 la;subst this;simp [Lt]
 | c::p,[],b,_,la,_,_,_,_=>by simp at la
 | c::p,x::a,[],_,_,lb,_,_,_=>by simp at lb
 | c::p,x::a,y::b,hn,la,lb,ha,hb,h=>by
  rw [W8] at hn;obtain ⟨x1,dx,hdx⟩:=ha x ag;obtain ⟨y1,gy,hgy⟩:=hb y ag
  have k1:∀ (D:Nat) (s:List Q),cfT (dI D p s) c=0:=fun D s=>BC _ fun hm=>by
   obtain ⟨t,ht,e⟩:=Zi.1 hm;exact hn.1 (by rw [<- e];exact vr t ht)
  have k2:∀ (D:Nat) (z:Q) (s:List Q),cfT (dI D (c::p) (z::s)) c=z.1*((D / z.2:Nat):Int):=fun D z s=>by
   simp only [dI];split
   ·rename_i h0;rw [k1,h0];simp
   ·simp [cfT,k1]
  have k3:∀ (D:Nat) (z:Q) (s:List Q) (e:Int),e≠c->cfT (dI D (c::p) (z::s)) e=cfT (dI D p s) e:=fun D z s e he=>by
   simp only [dI];split
   ·rfl
   ·simp [cfT,Ne.symm he]
  refine ⟨?_,Sw d0 g0 hn.2 (by simpa using la) (by simpa using lb) (fun u hu=>ha u (by simp [hu])) (fun u hu=>hb u (by simp [hu])) fun e he=>?_⟩
  ·have:=h c ag;rw [k2,k2,hdx,hgy,Yq _ x1,Yq _ y1] at this
   have dx0:0<dx:=by
    rcases Ze dx with h | h
    ·rw [h] at hdx;omega
    ·exact h
   have gy0:0<gy:=by
    rcases Ze gy with h | h
    ·rw [h] at hgy;omega
    ·exact h
   have hne:(gy:Int)*(dx:Int)≠0:=Wt aa aa;refine Yi hne ?_;rw [Int.natCast_mul,Int.natCast_mul] at this
   have l:(y.2:Int)*(gy:Int)*(x.1*(dx:Int))=x.1*(y.2:Int)*((gy:Int)*(dx:Int)):=by
    simp only [Y4,W5,Int.mul_assoc]
   have r:q*((x.2:Int)*(dx:Int))*(y.1*(gy:Int))=q*(y.1*(x.2:Int))*((gy:Int)*(dx:Int)):=by
    simp only [Y4,W5,Int.mul_assoc]
   rw [<- l,<- r];exact this
  ·have hec:e≠c:=fun hh=>hn.1 (hh ▸ he)
   have:=h e (by simp [he])
   rwa [k3 _ _ _ _ hec,k3 _ _ _ _ hec] at this
def aaG (p:List Int) (a b:List Q) (q:Int):Prop:=
 (kt (iB (0,1) a b) a b=true∧q=(iB (0,1) a b).1 / ((iB (0,1) a b).2:Int)∧0<(iB (0,1) a b).2)∨Ei (tq p a) (tq p b) (fN 1 a) (fN 1 b)=some q ∨
 ∃ j,j<=3∧yX (aM (64*2 ^ j) (tq p a) (0,0)) (aM (64*2 ^ j) (tq p b) (0,0)) (fN 1 a) (fN 1 b)=some q
theorem Vz {p:List Int} {a b:List Q} {n A m B:Nat} (hp:in6 p) (n0:0<n) (m0:0<m) (ha:bdL n A a) (hb:bdL m B b) (la:a.length=p.length) (lb:b.length=p.length) (hpos:∀ t∈tq p b,0<t.2) (ne:tq p b≠[])
  (hA:A<9223372036854775808) (hB:B<9223372036854775808) (hn:n<9223372036854775808) (hm:m<9223372036854775808) (hQ:A*m*48<9223372036854775808) (hC:m*(6*A)+4*(6*A)*m*n*(6*B)<=73786976294838206464) :
  ∃ q:Int,uZ p a b q∧q.natAbs<=A*m*48∧aaG p a b q:=by
 have oa:=DC n0 ha;have ob:=DC m0 hb;have hAm:A*m<=A*m*48:=Zd _ ae;by_cases hr:kt (iB (0,1) a b) a b=true
 ·obtain ⟨k1,k2⟩:=IV (A:=A) (m:=m) (a:=a) (b:=b) (k:=(0,1)) (fun x hx=>by
   obtain ⟨z,z1,z2⟩:=ha x hx;exact ⟨(oa x hx).1,by have:=(P9 n0 z1).1;omega⟩) (fun y hy=>by
   obtain ⟨z,z1,z2⟩:=hb y hy;exact ⟨(ob y hy).1,(P9 m0 z1).2⟩) ae ag
  refine ⟨_,Or.inl ⟨hr,rfl⟩,Z1 (Hf (M:=(iB (0,1) a b).1.natAbs) aa ?_) (Z1 k2 hAm),Or.inl ⟨hr,rfl,k1⟩⟩;exact Zd _ aa
 ·have hr':kt (iB (0,1) a b) a b=false:=by simpa using hr
  have tx:=Ga hp n0 ha hA;have ty:=Ga hp m0 hb hB;have d1:=Hy ha;have g1:=Hy hb;have dle:=Ya n0 d1;have gle:=Ya m0 g1;have d0:0<fN 1 a:=mK ae fun x hx=>(oa x hx).1
  have g0:0<fN 1 b:=mK ae fun x hx=>(ob x hx).1
  have lx:(tq p a).length<=6:=by
   have:=pZ (d:=fN 1 a) p a;have:=hp.2.1;unfold tq;omega
  have ly:(tq p b).length<=6:=by
   have:=pZ (d:=fN 1 b) p b;have:=hp.2.1;unfold tq;omega
  have sx:dU (tq p a)<=6*A:=Z1 (xe (C:=A) _ fun t ht=>xd n0 d1 ha t ht) (Z3 _ lx);have sy:dU (tq p b)<=6*B:=Z1 (xe (C:=B) _ fun t ht=>xd m0 g1 hb t ht) (Z3 _ ly);have hx6:∀ t∈tq p a,t.1∈c6P:=uC hp;have hy6:∀ t∈tq p b,t.1∈c6P∧0<t.2:=fun t ht=>⟨uC hp t ht,hpos t ht⟩
  have bQ:8*dU (tq p a)*fN 1 b<=A*m*48:=by
   have e:A*m*48=8*(6*A)*m:=by
    rw [Wv A m,<- Nat.mul_assoc,Zy A]
   rw [e];exact Zq (Z5 _ sx) gle
  cases hq:Ei (tq p a) (tq p b) (fN 1 a) (fN 1 b) with
  | some q=>
   have h1:=Ov tx hy6 ne d0 hq;refine ⟨q,Or.inr ⟨hr',tx,ty,aa,aa,Or.inl ⟨hq,aa,aa⟩⟩,aa,Or.inr (Or.inl hq)⟩
  | none=>
   rcases Uj (tx:=tq p a) (ty:=tq p b) d0 g0 hx6 hy6 ne (by
    refine Z1 (Nat.add_le_add (Zq gle sx) ?_) hC;exact Zq (Zq (Zq (Z5 4 sx) gle) dle) sy) with ⟨q,h⟩ | h
   ·exfalso;refine hr (TD aa oa ob (Sw (q:=q) d0 g0 hp.1 la lb (fun x hx=>⟨(oa x hx).1,(pi (s:=a) (d:=1)).2 x hx⟩) (fun y hy=>⟨(ob y hy).1,(pi (s:=b) (d:=1)).2 y hy⟩) fun c hc=>h c (hp.2.2 c hc)))
   ·obtain ⟨q,q1,q2,q3⟩:=h 6 0 ae ae;refine ⟨q,Or.inr ⟨hr',tx,ty,aa,aa,Or.inr ⟨hq,Hr hx6,Hr (uC hp),fun i _=>?_,by simpa using q1⟩⟩,?_,Or.inr (Or.inr q3)⟩
    ·obtain ⟨y1,y2,_⟩:=qK (64*2 ^ i) (tq p b);omega
    ·refine Z1 q2 (Z1 ?_ bQ);have e:4*dU (tq p a)*fN 1 b<=8*dU (tq p a)*fN 1 b:=Z3 _ aa;exact e
theorem acS {p:List Int} {a b:List Q} {n A m B:Nat} (hp:in6 p) (n0:0<n) (m0:0<m) (ha:bdL n A a) (hb:bdL m B b) (la:a.length=p.length) (lb:b.length=p.length) (hpos:∀ t∈tq p b,0<t.2) (ne:tq p b≠[])
  (hA:A<9223372036854775808) (hB:B<9223372036854775808) (hn:n<9223372036854775808) (hm:m<9223372036854775808) (hQ:A*m*48<9223372036854775808) (hC:m*(6*A)+4*(6*A)*m*n*(6*B)<=73786976294838206464) :
  ∃ q:Int,uZ p a b q∧q.natAbs<=A*m*48:=by
 obtain ⟨q,h1,h2,_⟩:=Vz hp n0 m0 ha hb la lb hpos ne hA hB hn hm hQ hC;exact ⟨q,h1,h2⟩
theorem xL {z:Int} {n:Nat} (h0:0<n) (h1:n<1000000000000000000) (h2 : -1000000000000000000<z) (h3:z<1000000000000000000) (hg:Nat.gcd z.natAbs n=1):CP Y F.aU [I z,I n] (.agg (qT (z,n))):=by
 refine oc ?_;have fo:=JO (n:=z) (d:=(n:Int)) aa aa aa aa aa;rw [CG h0,Ju hg] at fo;have fo':CP Y F.jU [I z,I n] (.tup [.agg [S (itoa z),S (ah n)],I 0]):=fo;simp (disch:=try exact ac)[aU];refine cd fo' ?_;simp (disch:=try exact ac)[];exact lF rfl rfl
theorem Jt {p:List Int} {n:Nat} (hp:pcB p=0) (hN:p.length<=20) (hl:0<p.length) (h0:0<n) (h1:n<=10000) (hr:okS (eM p n)):CP Y F.fp [lst di p,I n] (szV (eM p n)):=by
 refine vV ?_;have eq:=zr hp aa hl;have nu:=xL (z:=1) (n:=n) h0 aa aa aa ag;have le:(eJ p.length).length=p.length:=by simp [eJ];omega
 have sc:=uP (p:=p) (s:=eJ p.length) (k:=(1,n)) hp aa le (wV _) (Vx h0 h1) hr;simp (disch:=try exact ac)[fp];refine cd eq ?_;simp (disch:=try exact ac)[];refine cd nu ?_;simp (disch:=try exact ac)[];refine cd sc ?_ (by simp [ai,aF,szV,bU,qT]);simp (disch:=try exact ac)[]
 exact ⟨_,sC _ _⟩
structure aa9 (p:List Int) (n:Nat) (r:List Int) (q:Int):Prop where
 hp:pcB p=0
 hN:p.length<=20
 hl:0<p.length
 h0:0<n
 h1:n<=10000
 lr:r.length=p.length
 sr:smR r=true
 st:okS (eM p n)
 of:okS (ofQ r)
 q1 : -1000000000000000000<q
 q2:q<1000000000000000000
 ti:okS (nJ p n q)
 er:okS (iG p n q (ofQ r))
theorem CE {p r:List Int} {n:Nat} {q:Int} (E:aa9 p n r q):CP Y F.cQ [lst di p,I n,I q,lst di r] (szV (iG p n q (ofQ r))):=by
 refine uL ?_;have st:=Jt E.hp E.hN E.hl E.h0 E.h1 E.st;have nu:=xL (z:=q) (n:=1) ae ae E.q1 E.q2 ag;have sc:=uP (p:=p) (s:=eM p n) (k:=(q,1)) E.hp (by have:=E.hN;omega) (vt E.hl) E.st (zb q E.q1 E.q2) E.ti;have of_:=Ci E.hp (by have:=E.hN;omega) E.lr E.sr;have lo:(ofQ r).length=p.length:=by simp [ofQ,E.lr]
 have sb:=PI (p:=p) (s:=nJ p n q) (t:=ofQ r) E.hp (by have:=E.hN;omega) (wu E.hl) E.ti lo E.of E.er;have sc':CP Y F.fk [lst di p,szV (eM p n),.agg (qT (q,1))] (.tup [szV (nJ p n q),I 0]):=sc;simp (disch:=try exact ac)[cQ];refine cd st ?_;simp (disch:=try exact ac)[];refine cd nu ?_
 simp (disch:=try exact ac)[];refine cd sc' ?_ (by simp [ai,aF,szV,bU,qT]);simp (disch:=try exact ac)[];refine cd of_ ?_;simp (disch:=try exact ac)[];refine cd sb ?_ (by simp [ai,szV,bU]);simp (disch:=try exact ac)[];exact ⟨_,sC _ _⟩
theorem Fe {p r:List Int} {n:Nat} {q:Int} (E:wd p n r q):CP Y F.cQ [lst di p,I n,I q,lst di r] (szV (iG p n q (ofQ r))):=
 CE ⟨E.hp,E.hN,E.hl,E.h0,E.h1,E.lr,E.sr,E.st,E.of,E.q1,E.q2,E.ti,E.er⟩
theorem o8 {p r:List Int} {n:Nat} {q:Int} (E:wd p n r q):CP Y F.bK [lst di p,I n,lst di r] (I q):=by
 refine tw ?_;have st:=Jt E.hp E.hN E.hl E.h0 E.h1 E.st;have of_:=Ci E.hp (by have:=E.hN;omega) E.lr E.sr;have lo:(ofQ r).length=p.length:=by simp [ofQ,E.lr]
 have ro:=IP E.hp E.hN lo (vt E.hl) E.of E.st E.ne E.fl;have q1:=E.q1;have q2:=E.q2;have sm:=VR (z:=q) (Zc (Bn aa aa) ae)
 have sm':CP Y F.dM [S (itoa q)] (.tup [I q,B true]):=by
  unfold KS at sm
  rwa [if_pos ⟨aa,aa⟩] at sm
 simp (disch:=try exact ac)[bK];refine cd of_ ?_;simp (disch:=try exact ac)[];refine cd st ?_;simp (disch:=try exact ac)[];refine cd ro ?_ (by simp [ai,szV,bU]);simp (disch:=try exact ac)[];refine cd sm' ?_ (by simp [ai,aF]);simp (disch:=try exact ac)[] <;> exact bX rfl
theorem T2 {p r:List Int} {n:Nat} {q z:Int} (E:wd p n r q) (hz:vU p (iG p n q (ofQ r)) z) (z1 : -1<=z) (z2:z<=1):CP Y F.fS [lst di p,I n,lst di r] (szV (nB p n r q z)):=by
 refine wC ?_;have ne:=o8 E;have wr:=Fe E;have lo:(ofQ r).length=p.length:=by simp [ofQ,E.lr]
 have ab:=S6 E.hp (by have:=E.hN;omega) (qk (n:=n) (q:=q) E.hl lo) E.er hz z1 z2;simp (disch:=try exact ac)[fS];refine cd ne ?_;simp (disch:=try exact ac)[];refine cd wr ?_;simp (disch:=try exact ac)[];refine cd ab ?_ (by simp [ai,szV,bU]);simp (disch:=try exact ac)[];exact ⟨_,sC _ _⟩
def acL:Acc:=⟨1,0,1,.none⟩
theorem JZ {s t:List Int} (hN:s.length<1000000) (k:KL):∀ (q r a b:List Int),a++q=s->b++r=t->a.length=b.length->q.length=r.length->(q=r->k (.exit 0) [] [])->(q≠r->k .ret [B false] []) ->
  lp (dV (CX Y) (lst di s) (lst di t)) [] [] [I a.length] [] k
 | [],r,a,b,ha,hb,hab,hqr,h0,h1=>by
  simp at ha;subst ha
  have:r=[]:=by cases r with
   | nil=>rfl
   | cons y r=>simp at hqr
  refine am ?_;simp (disch:=try exact ac)[dV];exact h0 this.symm
 | x::q,[],a,b,ha,hb,hab,hqr,h0,h1=>by simp at hqr
 | x::q,y::r,a,b,ha,hb,hab,hqr,h0,h1=>by
  have hal:a.length<s.length:=by subst ha;simp
  have hbl:a.length<t.length:=by subst hb;simp;omega
  have hx:nth 0 s a.length=x:=by subst ha;simp
  have hy:nth 0 t a.length=y:=by subst hb;rw [hab];simp
  have i1:=ci di s [] (k:=.i64) (i:=(a.length:Int)) aa aa;have i2:=cU di 0 s [] (j:=a.length) hal;have j1:=ci di t [] (k:=.i64) (i:=(a.length:Int)) aa aa;have j2:=cU di 0 t [] (j:=a.length) hbl;rw [hx] at i2;rw [hy] at j2;simp only [Int.toNat_natCast] at i1 j1;have g1:(a.length:Int)<(s.length:Int):=aa;refine am ?_;by_cases hxy:x=y
  ·subst hxy;have ih:=JZ hN k q r (a++[x]) (b++[x]) (by simpa using ha) (by simpa using hb) (by simp [hab]) (by simpa using hqr) (fun e=>h0 (by rw [e])) (fun e=>h1 (by simpa using e));simp (disch:=try exact ac)[dV,i1,i2,j1,j2,g1,hx,hy];simpa using ih
  ·simp (disch:=try exact ac)[dV,i1,i2,j1,j2,g1,hx,hy,hxy];exact h1 (by simp [hxy])
theorem G9 {s t:List Int} (hN:s.length<1000000):CP Y F.cO [lst di s,lst di t] (B (decide (s=t))):=by
 refine rJ ?_;have l1:bm (lst di s)=some (I s.length):=rfl;have l2:bm (lst di t)=some (I t.length):=rfl;by_cases h:s.length=t.length
 ·have g:((s.length:Int)=(t.length:Int))=True:=eq_true aa;simp (disch:=try exact ac)[cO,l1,l2,g]
  have:=JZ (s:=s) (t:=t) hN (exK [(Exit.exit 0,fun l5 h=>out (B (decide (s=t))) (V.d (D.bool true)) h),(Exit.ret,fun l5 h=>out (B (decide (s=t))) (ge l5 0) h)]) s t [] [] rfl rfl rfl h (fun g=>by
   simp (disch:=try exact ac)[];exact ip (by simp [g])) (fun g=>by
   simp (disch:=try exact ac)[];exact ip (by simp [g]))
  refine lo ?_;exact this
 ·have g:¬ ((s.length:Int)=(t.length:Int)):=aa;have:¬ s=t:=fun e=>h (by rw [e])
  simp (disch:=try exact ac)[cO,l1,l2,g] <;> exact ip (by simp [this])
theorem zV {s t:List Int} (hN:s.length<1000000):CP Y F.dw [lst di s,lst di t] (B (decide (s=t))):=by
 refine sG ?_;simp (disch:=try exact ac)[dw];refine cd (G9 hN) ?_;simp (disch:=try exact ac)[] <;> exact ip rfl
def rN:List (List Int):=[[2,3,5],[2,3,5,7],[2,3],[2,3,7],[2,5,7],[3,5,7],[2,3,5,11],[2],[2,3,7,13],[3,5,7,13]]
def tV (k:Nat):List Int:=rN.getD (k % 10) []
theorem I7 {k:Nat} (hk:k<256):CP Y F.dY [.d (.int .u8 k)] (lst di (tV k)):=by
 refine t6 ?_;have c1:cvI .i64 (.d (.int .u8 (k:Int)))=some (I k):=by rw [Nx,wrap_i64 ⟨aa,aa⟩]
 have m1:biI .rem (I (k:Int)) (I 10)=some (I ((k % 10:Nat):Int)):=by
  rw [UX aa,Zv aa];congr 3
 have hkk:k % 10<10:=Yw _ ae;have i1:=fun H:Hp=>ci row rN H (k:=.i64) (i:=((k % 10:Nat):Int)) aa (by show ((k % 10:Nat):Int)<10;omega)
 have i2:=fun H:Hp=>cU row [] rN H (j:=k % 10) hkk
 have hn:nth [] rN (k % 10)=tV k:=rfl;rw [hn] at i2;generalize k % 10=j at *;simp only [Int.toNat_natCast] at i1;simp (disch:=try exact ac)[dY,dF,gC,jy,toD,c1];have hw:IntKind.wrap .i64 (k:Int)=(k:Int):=wrap_i64 ⟨aa,aa⟩
 show rn (bnd (bm (lst row rN))) (fun v13=>bnd (biI .rem (.d (.int .i64 (IntKind.i64.wrap k))) v13) fun v14=>bnd (ixV [] 1 (lst row rN) v14) fun v15=>bnd (ld1 [] v15) fun v16=>out (lst di (tV k)) v16 []) .mk
 have l10:bm (lst row rN)=some (I 10):=rfl;rw [hw,l10];rw [VW];rw [show biI .rem (.d (.int .i64 (k:Int))) (I 10)=some (I (j:Int)) from m1];rw [qS,i1,qS,i2,qS];exact TN ..
def itv (l:Nat) (e:List Int):List Int:=(e.take l).map fun x=>x.tmod 10
def i8V (x:Int):V:=.d (.int .i8 x)
def itH (e:List Int) (L:Nat) (c:List D):Hp:=[(1,.vars (e.map i8V)),acL.b L c]
theorem QU:∀ e:List Int,offB [] (.vars (e.map i8V))=true
 | []=>rfl
 | x::e=>by
  have:=QU e;rw [wi] at this ⊢;simp [fF,kZ,i8V];simpa [i8V] using this
theorem JE {p:List Int} {e:List Int} (he:e.length=4) (hb:∀ x∈e,-128<=x∧x<=127) (hp:p.length<=4) (k:KL) (h0:Hp) (hh:h0.length=2):∀ (f i:Nat),i+f=p.length ->
  k (.exit 0) [acL.v (itv p.length e).length ((itv p.length e).map di)] (itH e (itv p.length e).length ((itv p.length e).map di)) ->
  lp (gj (CX Y) (lst di p) (.ptr 0 1 0 4)) [] h0 [acL.v (itv i e).length ((itv i e).map di),I i] (itH e (itv i e).length ((itv i e).map di)) k
 | 0,i,hi,hk=>by
  have g:¬ (i:Int)<(p.length:Int):=aa;have:i=p.length:=aa;subst this;have l1:bm (lst di p)=some (I p.length):=rfl;refine am ?_;simp (disch:=try exact ac)[gj,l1];exact hk
 | f+1,i,hi,hk=>by
  have g:(i:Int)<(p.length:Int):=aa;have g2:(i:Int)<4:=aa;have l1:bm (lst di p)=some (I p.length):=rfl;obtain ⟨x,hx⟩:∃ x,e[i]? = some x:=⟨e[i]'(by omega),List.getElem?_eq_getElem aa⟩;have hxm:=hb x (Yo hx);have li:(itv i e).length=i:=by simp [itv];omega
  have ih:=JE he hb hp k h0 hh f (i+1) aa hk
  have es:itv (i+1) e=itv i e++[x.tmod 10]:=by
   unfold itv;rw [W6,hx];simp
  rw [es] at ih;have hlt:i<e.length:=aa
  have hxe:e[i]=x:=by
   have:=List.getElem?_eq_getElem hlt;rw [hx] at this;simpa using this.symm
  have he':4=e.length:=he.symm;have r1 : -10<x.tmod 10:=Int.lt_tmod_of_pos x ae;have r2:=Int.tmod_lt_of_pos x (b:=10) ae;have li1:∀ (z:Int) (H:Hp),dF 1 [D.int IntKind.i64 0] [(0,V.d (D.int IntKind.i64 z))] H=some ([di z],H):=fun z H=>by simp [dF,gC,jy,toD,di]
  have cR:((itv i e).map di).length=(itv i e).length*acL.n:=by simp [acL]
  have cw:∀ x y:Nat × Bk,([(1,.vars (e.map i8V)),x]:Hp).set acL.s y=[(1,.vars (e.map i8V)),y]:=fun x y=>rfl
  have hre:∀ x:Hp,x.length=2->aC [] 0 h0 x=x:=fun x hx=>bO 0 h0 x aa
  have ev:∀ c,acL.v ((itv i e).length+1) c=.ref acL.s (acL.e+1) 0 ((itv i e).length+1) ((itv i e).length+1) c.length:=fun c=>rfl
  have eb:∀ c,acL.b ((itv i e).length+1) c=(acL.e+1,.data acL.n c false false):=fun c=>rfl
  refine am ?_;simp (disch:=try exact ac)[gj,l1,g,g2,itH,he',hxe,i8V,li1];refine kY acL (k:=1) aa rfl cR (by rfl) rfl (fun t e=>by cases e) aa ae ?_;have hoff:=QU e;simp (disch:=try exact ac)[cw,hre,clean,fF,oe,od,eC,kZ,hoff];refine ⟨rfl,?_⟩;simpa [ev,eb,itH] using ih
theorem KD {p:List Int} {a b c d:Int} (ha : -128<=a∧a<=127) (hb : -128<=b∧b<=127) (hc : -128<=c∧c<=127) (hd : -128<=d∧d<=127) (hp:p.length<=4):CP Y F.dy [lst di p,.agg [i8V a,i8V b,i8V c,i8V d]] (lst di (itv p.length [a,b,c,d])):=by
 refine sH ?_
 have hl:=JE (p:=p) (e:=[a,b,c,d]) rfl (by
  intro x hx;simp only [Zt,Zf,or_false] at hx;rcases hx with rfl | rfl | rfl | rfl <;> assumption) hp (exK [((.exit 0),fun l2 h=>out (lst di (itv p.length [a,b,c,d])) (ge l2 0) h)]) [(1,.vars [i8V a,i8V b,i8V c,i8V d]),(0,.none)] rfl p.length 0 aa (by
  obtain ⟨h',q1,_⟩:=jP acL (L:=(itv p.length [a,b,c,d]).length) (cells:=(itv p.length [a,b,c,d]).map di) (h:=itH [a,b,c,d] (itv p.length [a,b,c,d]).length ((itv p.length [a,b,c,d]).map di)) rfl (by simp [acL]);simp only [exK];exact ⟨h',q1⟩)
 simp (disch:=try exact ac)[dy];exact hl
theorem Mb (n k:Nat) (hn:0<n):kw (1,n) (List.replicate k (0,1)) (List.replicate k (0,1))=List.replicate k (0,1):=by
 induction k with
 | zero=>simp [kw]
 | succ k ih=>
  rw [List.replicate_succ,kw,ih];have e1:mI ((0,1):Q) (1,n)=(0,1):=jH ⟨Wd,ag⟩ (by simpa using hn) ag;have e2:pz ((0,1):Q) (0,1)=(0,1):=ae;rw [e1,e2]
theorem B7 {p:List Int} {n:Nat} (hl:0<p.length) (h0:0<n):eM p n=(1,n)::List.replicate (p.length-1) (0,1):=by
 obtain ⟨k,hk⟩:∃ k,p.length=k+1:=⟨p.length-1,aa⟩;unfold eM kI eJ;rw [hk,List.replicate_succ];simp only [qU,kw,Xi];rw [Mb n k h0];have e1:mI ((1,1):Q) (1,n)=(1,n):=jH ⟨h0,ag⟩ (by simpa using h0) ag;rw [e1];have e2:pz ((0,1):Q) (1,n)=(1,n):=jH ⟨h0,ag⟩ (by simpa using h0) ag;rw [e2]
theorem yD {p:List Int} {n:Nat} (hl:0<p.length) (h0:0<n):bdL n 1 (eM p n):=by
 rw [B7 hl h0];intro x hx;simp only [Zt,Y5] at hx;rcases hx with rfl | ⟨_,rfl⟩
 ·exact ⟨1,⟨⟨h0,ag⟩,ag⟩,ae⟩
 ·exact ⟨0,xo n,ae⟩
theorem yM {d:Nat} (hd:0<d):∀ {p:List Int} {s:List Q},(∀ x∈s,0<=x.1∧0<x.2∧x.2 ∣ d)->∀ t∈dI d p s,0<t.2
 | [],s,_,t,ht=>by simp [dI] at ht
 | p::ps,[],_,t,ht=>by simp [dI] at ht
 | p::ps,x::s,h,t,ht=>by
  have ih:=yM hd (p:=ps) (s:=s) fun y hy=>h y (by simp [hy])
  obtain ⟨h0,h1,h2⟩:=h x ag;have h3:0<d / x.2:=Wc (Ya hd h2) h1;simp only [dI] at ht;split at ht
  ·exact ih t ht
  ·rename_i hx;simp only [Zt] at ht;rcases ht with rfl | ht
   ·exact Wx aa aa
   ·exact ih t ht
theorem Py {p:List Int} {x:Q} {s:List Q} (hp:0<p.length) (hx:x.1≠0):tq p (x::s)≠[]:=by
 cases p with
 | nil=>simp at hp
 | cons c p=>simp [tq,dI,hx]
theorem TA {p:List Int} {n:Nat} (hl:0<p.length) (h0:0<n):∃ x:Q,uR p (eM p n)=x::List.replicate (p.length-1) (0,1)∧0<x.1:=by
 obtain ⟨k,hk⟩:∃ k,p.length=k+1:=⟨p.length-1,aa⟩;rw [B7 hl h0];unfold uR kI;rw [hk,List.replicate_succ];simp only [qU,kw,Xi]
 have e:∀ k,kw (2,1) (List.replicate k (0,1)) (List.replicate k (0,1))=List.replicate k (0,1):=by
  intro k
  induction k with
  | zero=>simp [kw]
  | succ k ih=>
   rw [List.replicate_succ,kw,ih];have:pz ((0,1):Q) (mI (0,1) (2,1))=(0,1):=ae;rw [this]
 rw [e k];refine ⟨_,rfl,?_⟩;have r1:rp n ((1,n):Q) 1:=⟨⟨h0,ag⟩,ag⟩;have r2:=K3 (xo n) (GA 2 r1);have h:=r2.2;have h':=r2.1.1;obtain ⟨y,hy⟩:∃ y:Q,y=pz (0,1) (mI (1,n) (2,1)):=⟨_,rfl⟩;rw [<- hy] at h h' ⊢;have h2:0<y.1*(n:Int):=by rw [h];omega
 by_cases hy0:0<y.1
 ·exact hy0
 ·have:=Xg (a:=-y.1) (b:=(n:Int)) aa aa;rw [Wy] at this;omega
theorem NN {z:Int} (h1 : -1<=z) (h2:z<=1):(rW z).natAbs<=1:=by
 have:z = -1∨z=0∨z=1:=aa;rcases this with rfl | rfl | rfl <;> decide
theorem wz {r:List Int} (hr:∀ x∈r,x.natAbs<=9):smR r=true:=by
 unfold smR;rw [Zu];intro x hx;have:=hr x hx;simp only [Z8,decide_eq_true_eq];omega
theorem DF {p r:List Int} {n:Nat} {q:Int} (hl:0<p.length) (h0:0<n) (hr:∀ x∈r,x.natAbs<=9):bdL n (q.natAbs+9*n) (iG p n q (ofQ r)):=by
 have h1:bdL n (q.natAbs*1) (nJ p n q):=vS (yD hl h0);have h2:=SQ (b:=n) hr;have:=Hw (n:=p.length) (z:=1) (w:=-1) h1 h2;unfold iG;simpa using this
theorem acC {p:List Int} {s:List Q} {n b A:Nat} (hp:in6 p) (hl:0<p.length) (h0:0<n) (h1:n<=10000) (hb0:0<b) (hb1:b<=12) (hA1:A<=600) (ls:s.length=p.length) (hs:bdL b A s) :
  ∃ q:Int,uZ p (xp p s (eM p n)) (uR p (eM p n)) q∧q.natAbs<=(2*A*n+b)*n*48∧aaG p (xp p s (eM p n)) (uR p (eM p n)) q:=by
 have hb:=yD hl h0 (p:=p)
 have hB:bdL n 2 (uR p (eM p n)):=by
  have:=vS (n:=p.length) (z:=2) hb;simpa [uR] using this
 have hA:bdL (b*n) (2*A*n+b) (xp p s (eM p n)):=by
  have b1:=yE n hs;have b2:=yE b hb;rw [Zy n b] at b2;have:=Hw (n:=p.length) (z:=2) (w:=1) b1 b2;unfold xp;refine BG this ?_;have e1:(2:Int).natAbs=2:=rfl;have e2:(1:Int).natAbs=1:=rfl;rw [e1,e2,Xs,Xs,Nat.mul_assoc];exact Z7 _
 have lst:(eM p n).length=p.length:=vt hl
 have la:(xp p s (eM p n)).length=p.length:=oT fun t ht=>by
  simp only [Zt,Zf,or_false] at ht;rcases ht with rfl | rfl
  ·exact ls
  ·exact lst
 have lb:(uR p (eM p n)).length=p.length:=oT fun t ht=>by
  simp only [Zt,Zf,or_false] at ht;rw [ht];exact lst
 obtain ⟨x,hx,hx0⟩:=TA hl h0 (p:=p)
 have c1:2*A*n+b<=12000012:=by
  have:2*A*n<=1200*10000:=Zq aa h1;omega
 have c2:b*n<=120000:=Zq hb1 h1;have m1:(2*A*n+b)*n<=12000012*10000:=Zq c1 h1;have m2:n*(6*(2*A*n+b))<=10000*(6*12000012):=Zq h1 (Z5 _ c1)
 have m3:4*(6*(2*A*n+b))*n*(b*n)*(6*2)<=4*(6*12000012)*10000*120000*(6*2):=Z3 _ (Zq (Zq (Z5 _ (Z5 _ c1)) h1) c2)
 exact Vz hp (Ys hb0 h0) h0 hA hB la lb (yM (mK ae fun y hy=>(DC h0 hB y hy).1) fun y hy=>⟨by
   rw [hx] at hy;simp only [Zt,Y5] at hy;rcases hy with rfl | ⟨_,rfl⟩
   ·omega
   ·decide,(DC h0 hB y hy).1,(pi (s:=uR p (eM p n)) (d:=1)).2 y hy⟩) (by rw [hx];exact Py hl aa) aa aa aa aa aa aa
theorem nr6 {p:List Int} {s:List Q} {n b A:Nat} (hp:in6 p) (hl:0<p.length) (h0:0<n) (h1:n<=10000) (hb0:0<b) (hb1:b<=12) (hA1:A<=600) (ls:s.length=p.length) (hs:bdL b A s) :
  ∃ q:Int,uZ p (xp p s (eM p n)) (uR p (eM p n)) q∧q.natAbs<=(2*A*n+b)*n*48:=by
 obtain ⟨q,h1,h2,_⟩:=acC hp hl h0 h1 hb0 hb1 hA1 ls hs;exact ⟨q,h1,h2⟩
theorem er6 {p r:List Int} {n:Nat} (hpc:pcB p=0) (hp:in6 p) (hl:0<p.length) (h0:0<n) (h1:n<=10000) (lr:r.length=p.length) (hr:∀ x∈r,x.natAbs<=9) :
  ∃ q:Int,wd p n r q∧q.natAbs<=(18*n+1)*n*48:=by
 have hb:=yD hl h0 (p:=p);have lo:(ofQ r).length=p.length:=by simp [ofQ,lr]
 have ho:bdL 1 9 (ofQ r):=SQ (b:=1) hr;obtain ⟨q,q1,q2⟩:=nr6 hp hl h0 h1 (b:=1) (A:=9) ae ae ae lo ho;have q2:q.natAbs<=(18*n+1)*n*48:=q2;have m1:(18*n+1)*n<=180001*10000:=Zq aa h1;have hq:q.natAbs<=86400480000:=aa
 refine ⟨q,⟨hpc,by have:=hp.2.1;omega,hl,h0,h1,lr,wz hr,nY h0 hb aa aa,?_,?_,q1,aa,aa,?_,?_⟩,q2⟩
 ·exact nY (b:=1) aa ho aa aa
 ·rw [B7 hl h0];exact Py hl ag
 ·have h2:bdL n (q.natAbs*1) (nJ p n q):=vS hb;exact nY h0 h2 aa aa
 ·exact nY h0 (DF hl h0 hr) aa aa
theorem rc6 {p r:List Int} {lim:Nat} (hpc:pcB p=0) (hp:in6 p) (hl:0<p.length) (hlim:lim<=100) (lr:r.length=p.length) (hr:∀ x∈r,x.natAbs<=9) :
  ∃ (qf zf:Nat->Int) (ls:Nat->Nat->Bool),Vd p r lim qf zf ls:=by
 have H:∀ n,∃ w:Int × Int,1<=n->n<=lim->wd p n r w.1∧w.1.natAbs<=8644800∧vU p (iG p n w.1 (ofQ r)) w.2∧-1<=w.2∧w.2<=1:=by
  intro n;by_cases h:1<=n∧n<=lim
  ·obtain ⟨q,q1,q2⟩:=er6 (n:=n) hpc hp hl h.1 aa lr hr;have hn:n<=100:=aa;have m1:(18*n+1)*n<=1801*100:=Zq aa hn;have hq:q.natAbs<=8644800:=aa;obtain ⟨z,z1,z2,z3⟩:=sg6 hp h.1 (DF (q:=q) hl h.1 hr) aa;exact ⟨(q,z),fun _ _=>⟨q1,hq,z1,z2,z3⟩⟩
  ·exact ⟨(0,0),fun h1 h2=>absurd ⟨h1,h2⟩ h⟩
 obtain ⟨f,hf⟩:=Classical.axiomOfChoice H
 have hbA:∀ n,1<=n->n<=lim->bdL n (8644800+900) (nB p n r (f n).1 (f n).2):=by
  intro n h1 h2;obtain ⟨_,hq,_,z1,z2⟩:=hf n h1 h2;have:=vS (n:=p.length) (z:=rW (f n).2) (DF (q:=(f n).1) hl h1 hr);unfold nB KC;refine BG this ?_;refine Z1 (Z3 _ (NN z1 z2)) ?_;omega
 have H2:∀ w:Nat × Nat,∃ z:Int,1<=w.2->w.2<w.1->w.1<=lim->vU p (dfS p (nB p w.1 r (f w.1).1 (f w.1).2) (nB p w.2 r (f w.2).1 (f w.2).2)) z:=by
  rintro ⟨n,m⟩;by_cases h:1<=m∧m<n∧n<=lim
  ·obtain ⟨h1,h2,h3⟩:=h;have b1:=yE m (hbA n aa h3);have b2:=yE n (hbA m h1 aa);rw [Zy m n] at b2;have b3:=Hw (n:=p.length) (z:=1) (w:=-1) b1 b2;have e1:(8644800+900)*m<=(8644800+900)*100:=Z5 _ aa;have e2:(8644800+900)*n<=(8644800+900)*100:=Z5 _ aa
   obtain ⟨z,z1,_⟩:=sg6 hp (Ys aa aa) b3 (by
    have a1:(1:Int).natAbs=1:=rfl;have a2:(-1:Int).natAbs=1:=rfl;rw [a1,a2];omega)
   exact ⟨z,fun _ _ _=>z1⟩
  ·exact ⟨0,fun h1 h2 h3=>absurd ⟨h1,h2,h3⟩ h⟩
 obtain ⟨g,hg⟩:=Classical.axiomOfChoice H2;refine ⟨fun n=>(f n).1,fun n=>(f n).2,fun n m=>decide (g (n,m)<0),⟨fun n h1 h2=>(hf n h1 h2).1,fun n h1 h2=>(hf n h1 h2).2.2,fun n h1 h2=>nY h1 (hbA n h1 h2) aa aa,fun n m h1 h2 h3=>⟨g (n,m),hg (n,m) h1 h2 h3,rfl⟩⟩⟩
theorem I9:∀ l∈rN,pcB l=0∧l.Nodup∧0<l.length∧l.length<=4∧∀ x∈l,x∈c6P:=aE
theorem sJ (k:Nat):tV k∈rN:=by
 unfold tV;have h:k % 10<rN.length:=Yw _ ae;rw [Zw,List.getElem?_eq_getElem h];exact Xx h
theorem Br {p:List Int} {e:List Int} (he:e.length=4) (hp:p.length<=4):(itv p.length e).length=p.length:=by simp [itv];omega
theorem G4 (k:Nat) (e:List Int):∀ x∈itv k e,x.natAbs<=9:=by
 intro x hx;simp only [itv,Zi] at hx;obtain ⟨y,_,rfl⟩:=hx;have h1:=Int.tmod_lt_of_pos y (b:=10) ae;have h2 : -10<y.tmod 10:=Int.lt_tmod_of_pos y ae;omega
end Go.Vm
