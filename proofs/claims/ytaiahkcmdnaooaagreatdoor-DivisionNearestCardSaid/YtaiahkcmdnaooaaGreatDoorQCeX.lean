/- Small combinations of logarithms are not near nought: the certificate. -/
import Derived.Test.YtaiahkcmdnaooaaGreatDoorQDcY
import Derived.Test.YtaiahkcmdnaooaaGreatDoorQT
import Derived.Test.YtaiahkcmdnaooaaGreatDoorQTmC
set_option linter.unusedVariables false
set_option linter.unusedSimpArgs false
namespace Go.Vm
open Go Go.Am Go.Big
def ew:List Int->List Int->Int
 | a::r,b::t=>a*b+ew r t
 | _,_=>0
def D4 (E:Int) (ws:Int):List Int->List Int->List Int->Bool
 | w::W,l::L,u::U=>decide (E*u=w+ws*l) && D4 E ws W L U
 | [],[],[]=>true
 | _,_,_=>false
def ND:List Int->Nat
 | []=>0
 | w::W=>w.natAbs+ND W
theorem Ir {E ws:Int}:∀ {w L u:List Int},D4 E ws w L u=true->∀ c:List Int,E*ew c u=ew c w+ws*ew c L
 | [],[],[],_,c=>by cases c <;> simp [ew]
 | w::W,l::L,u::U,h,[]=>by simp [ew]
 | w::W,l::L,u::U,h,x::c=>by
  simp only [D4,Z8,decide_eq_true_eq] at h;have ih:=Ir h.2 c;simp only [ew,Wh];rw [ih]
  have e1:E*(x*u)=x*w+ws*(x*l):=by
   have:E*(x*u)=x*(E*u):=by rw [Wv]
   rw [this,h.1,Wh,Wv x ws l]
  rw [e1];omega
 | [],[],_::_,h,_=>by simp [D4] at h
 | [],_::_,_,h,_=>by simp [D4] at h
 | _::_,[],_,h,_=>by simp [D4] at h
 | _::_,_::_,[],h,_=>by simp [D4] at h
theorem MD {B:Nat}:∀ (c w:List Int),(∀ x∈c,x.natAbs<=B)->(ew c w).natAbs<=ND w*B
 | [],w,_=>by simp [ew]
 | x::c,[],_=>by simp [ew]
 | x::c,w::W,h=>by
  have h1:=h x (by simp);have ih:=MD c W fun y hy=>h y (by simp [hy])
  have h2:(x*w).natAbs<=w.natAbs*B:=by
   rw [Zi,Zy];exact Z4 _ h1
  have h3:=Int.natAbs_add_le (x*w) (ew c W);simp only [ew,ND,Nat.add_mul];omega
structure rX where
 w:List Int
 s:Int
 u:List Int
def NP (k E B G:Nat) (L:List Int) (r:rX):Bool:=D4 E r.s r.w L r.u && decide (ND r.w*B+r.s.natAbs*G<E) && decide (r.u.length=k)
theorem row_zero {k E B G:Nat} {L:List Int} {r:rX} (h:NP k E B G L r=true) {c:List Int} (hc:∀ x∈c,x.natAbs<=B) (hL:(ew c L).natAbs<=G):ew c r.u=0:=by
 simp only [NP,Z8,decide_eq_true_eq] at h;have h1:=Ir h.1.1 c;have h2:=MD c r.w hc
 have h3:(r.s*ew c L).natAbs<=r.s.natAbs*G:=by
  rw [Zi];exact Z4 _ hL
 have h4:=Int.natAbs_add_le (ew c r.w) (r.s*ew c L);rw [<- h1,Zi,Int.natAbs_natCast] at h4;have h5:E*(ew c r.u).natAbs<E*1:=by rw [Yl];exact Ze (Z3 h4 (Nat.add_le_add h2 h3)) h.1.2
 have h6:=Xh h5;omega
def Hb (v:Int):List Int->List Int->List Int
 | x::a,y::b=>(v*x+y)::Hb v a b
 | _,_=>[]
def Aj (k:Nat):List Int->List (List Int)->List Int
 | v::V,u::U=>Hb v u (Aj k V U)
 | _,_=>List.replicate k 0
theorem Fj (v:Int):∀ (c a b:List Int),a.length=b.length->ew c (Hb v a b)=v*ew c a+ew c b
 | [],a,b,_=>by simp [ew]
 | x::c,[],[],_=>by simp [ew,Hb]
 | x::c,y::a,z::b,h=>by
  simp only [Hb,ew,Fj v c a b (by simpa using h),Wh];rw [Wv x v y];omega
 | x::c,[],_::_,h=>by simp at h
 | x::c,_::_,[],h=>by simp at h
theorem FN (v:Int):∀ (a b:List Int),a.length=b.length->(Hb v a b).length=a.length
 | [],[],_=>rfl
 | x::a,y::b,h=>by simp [Hb,FN v a b (by simpa using h)]
 | [],_::_,h=>by simp at h
 | _::_,[],h=>by simp at h
theorem FA {k:Nat}:∀ (V:List Int) (U:List (List Int)),(∀ u∈U,u.length=k)->(Aj k V U).length=k
 | [],_,_=>by simp [Aj]
 | _::_,[],_=>by simp [Aj]
 | v::V,u::U,h=>by
  have h1:=h u (by simp);have ih:=FA V U fun y hy=>h y (by simp [hy])
  rw [Aj,FN v _ _ (by rw [h1,ih]),h1]
theorem Cu:∀ (c:List Int) (k:Nat),ew c (List.replicate k 0)=0
 | [],k=>by simp [ew]
 | x::c,0=>by simp [ew]
 | x::c,k+1=>by simp [List.replicate_succ,ew,Cu c k]
theorem Fi {k:Nat} {c:List Int}:∀ (V:List Int) (U:List (List Int)),(∀ u∈U,u.length=k)->(∀ u∈U,ew c u=0)->ew c (Aj k V U)=0
 | [],_,_,_=>by rw [Aj];exact Cu c k;simp
 | _::_,[],_,_=>by rw [Aj];exact Cu c k;simp
 | v::V,u::U,h,h0=>by
  have h1:=h u (by simp);have hl:=FA V U fun y hy=>h y (by simp [hy])
  rw [Aj,Fj v _ _ _ (by rw [h1,hl]),h0 u (by simp),Fi V U (fun y hy=>h y (by simp [hy])) fun y hy=>h0 y (by simp [hy])];simp
def As:Nat->List Int->Bool
 | 0,x::r=>decide (x=1) && r.all fun y=>decide (y=0)
 | i+1,x::r=>decide (x=0) && As i r
 | _,[]=>false
theorem Iv:∀ (c r:List Int),(r.all fun y=>decide (y=0))=true->ew c r=0
 | [],r,_=>by simp [ew]
 | x::c,[],_=>by simp [ew]
 | x::c,y::r,h=>by
  simp only [List.all_cons,Z8,decide_eq_true_eq] at h;simp [ew,h.1,Iv c r h.2]
theorem Ff:∀ (i:Nat) (c r:List Int),As i r=true->ew c r=c.getD i 0
 | _,[],r,_=>by simp [ew]
 | i,x::c,[],h=>by cases i <;> simp [As] at h
 | 0,x::c,y::r,h=>by
  simp only [As,Z8,decide_eq_true_eq] at h;simp [ew,h.1,Iv c r h.2]
 | i+1,x::c,y::r,h=>by
  simp only [As,Z8,decide_eq_true_eq] at h;simp [ew,h.1,Ff i c r h.2]
def FE (k E B G:Nat) (L:List Int) (rs:List rX) (V:List (List Int)):Bool:=
 rs.all (NP k E B G L) && (List.range k).all fun i=>As i (Aj k (V.getD i []) (rs.map rX.u))
theorem Ke {k E B G:Nat} {L:List Int} {rs:List rX} {V:List (List Int)} (h:FE k E B G L rs V=true) {c:List Int} (hk:c.length=k) (hc:∀ x∈c,x.natAbs<=B) (hL:(ew c L).natAbs<=G):∀ x∈c,x=0:=by
 simp only [FE,Z8,Zz,Ws] at h;intro x hx;obtain ⟨i,hi,rfl⟩:=List.getElem_of_mem hx;have h1:=h.2 i (by omega);have h2:=Ff i c _ h1
 have hu:∀ u∈rs.map rX.u,u.length=k:=by
  intro u hu;obtain ⟨r,hr,rfl⟩:=Zd.1 hu;have:=h.1 r hr;simp only [NP,Z8,decide_eq_true_eq] at this;exact this.2
 have hz:∀ u∈rs.map rX.u,ew c u=0:=by
  intro u hu;obtain ⟨r,hr,rfl⟩:=Zd.1 hu;exact row_zero (h.1 r hr) hc hL
 rw [Fi _ _ hu hz] at h2;rw [Z0,List.getElem?_eq_getElem hi] at h2;simpa using h2.symm
def c6P:List Int:=[2,3,5,7,11,13]
def c6E:Nat:=49614784997166684354356440537718907724664518830926052597504563849643971255504954919833347734491512257382489393255698957922075077162815239663036099654758093
def Vq:rX:=⟨[-429684907064430635884713548526284398136750440240151633627270991646252110934279583518109208170890072173059957252012719268146472383,-574363685902068805515767317845714914837534458777698246546030963465399421722584750825841800946067324725919455794597202907650714121,239682664751044579988541147519446983012439651196620121180688085753545084198219673524259121840454877199861278833790608213415902674,490169592611154263938780316899978278808405480672551162133006080257504427486126943347802766926253129983746371607254066620887569298,71811715775640068681224631610670057458858997080415386752011858081716943546979212804136948205462437687236329264864522740212298311,0],103059907767718463631308043909722223789355679515715379399056304135065126571877681106872492632855700838224827057148240370083530499,[27850719270598031528536908140733767726118931125030666918173045185973172667860188885707249015707142008127010150542945896815030597,44142345662009950906473217222273266831075072962080801848929529359793809334236086475333529440262778693532659123357310119570130934,64667367537222437229042629185065593031871224642464366666187027301419473248433823599822660464071711192917462786579480814321303171,78186853827157949520348926870151630073461616463326005074218518844947088887169197112356103395848829463734133009661276810514943340,96347658846497915012712300521445224793371092227122571808163482414981061334202939766687213885286882331982494676527431449364289686,103059907767718463631308043909722223789355679515715379399056304135065126571877681106872492632855700838224827057148240370083530499]⟩
def Vp:rX:=⟨[-43110747200229788296365260636693326005998588987096619954869089054940869338398094725802200010641296086196605105832980957245125655,162405213819669793962280190067435374586389715176527151916613855891737269200280303764552382736400233000768360548298555683139521758,404833116842662799679601649178355400660926903004233561661612971025013587777085795229643097745145208628735147328531801055314143179,111041075422621091632158397747438726108086130430760853307822806463253294952608654713106923376779599395037338621685641491793297240,751114691308491007748668853269695973420513785378074807391897306050369179397438954528492628305404969487940080008216657151865963332,0],439335950650499223824285612195393470246325022551191878410003311583587261215293995436663577376424099141531452560034943295952926440,[118725336477362934197880093343646014501343934845599469041083727014247031851791170553859127674418803453469127786092422160298088845,188175206202121859889432882816363887782346661714572063010637704676107062674493836631592005509899148225876310193399916097614344766,275671694341744385276577596747505913130930191927564112532120860072746952504310540494146625463073726744185906700462890412841271983,333304157732670041939306775454492193056446676199211536601177646460426738001468515014602863833869554283420903035275514456363706920,410722182943141407003769412369889904314694067485291001688614574091306745899476297183642619558161403275889246772917969773153848764,439335950650499223824285612195393470246325022551191878410003311583587261215293995436663577376424099141531452560034943295952926440]⟩
def Vo:rX:=⟨[423300544883357628169939524369468130442632079304979463949839628809721770303266461002846953028568361004868161540605129199396988962,-285123376751573462547670869250854560875090665683045015576398439095041582316184627785715828691702533464772489911179761267994590743,96947262066998588060986165203869233724823904920882500261188216696259165091494962847118660572430053281916990492980910825907836463,465643235004406685744544157633672071145277353553705377795796544347470844368856705226921829685962331202833753120034719663594118792,497357904516595607875998002059903885126785617447941270967021510161371546662432400040919114810727834793445778668773252721855647984,0],-180283652357060891963341734855303342895290830340246672266453871380632466435841586997398361697779374621896239371486683254178315764,[-48719521486388647994543071022983664752401953327698105429919615640854155290405068663804326691156283768130439738516717942600735574,-77218614609004651574428397304640677475996238897591260101130280444561846829769936569179371527586743861652772671057466205927854567,-113123225708714309354486620684927528170189017992668492738825882325229155057119939468164799752889146239786133172214038272490076017,-136772988445104371502629183947232462461065058051394742325590385908796487752309402397614343938812666666327695704137115209330480400,-168541853074892062875215990314750670728957636274604138008149065504506005571792549457672536946639636538865197458036840004684847236,-180283652357060891963341734855303342895290830340246672266453871380632466435841586997398361697779374621896239371486683254178315764]⟩
def Vn:rX:=⟨[159531764860778240831070386638950943452271761373434132084660956390820782904556733889389035868101853798907780845890566495180410339,-180032089505609209860233013367430784981760269288235028150272233242192422337617266459588273668717274570307548125948198250997292668,722405188777314026290228423729562622485744858435224802669416577753872228546103611468200035730938439621290214051003514987402640739,36000990527446309198347138185176770004549727162813405250184033037069968420659466845714636018818258590705256959225987168237527327,-513530963278479332513950828304824217548759301985671116846623159423663302335838371957263992970359945416442876540905495299997168979,0],255319271753262736240596140445048610660147532638867101688231609388924934549470991616555890522609786307994265712474064939372719006,[68997008788329030471651890466501605922759514891055642670684877087150164920370355947256414807736361809274411982318831819290316655,109357671591429570348446990333056286674650708604085047802155266884788489640797707697129937207705205929608965377164939790970996338,160206093168811422882351307075073345108793236944860528664460807374981125107010762526335062166141314315540499983610962933037671305,193699092229167270957497322859449866983386428115660752004044982491020316707187384266855752641467878819592456428991277772969768015,238690433793740921787683432401020148873693897194675168197188040134700797741225079582870389221277519794301971401466914493602027743,255319271753262736240596140445048610660147532638867101688231609388924934549470991616555890522609786307994265712474064939372719006]⟩
def Vl:rX:=⟨[-115699792562142438908206584352388253201925118670869643467677761121403901270826956076992048101143363449386912529145981349866502063,317427049764918117651459939430012773888396636265162816931813707329297297607212420494030633298213235565148281059707087047705680636,193434686445219496297236067914981533486168164295004570116807459813592421290831775811834655808253617850393225983319103489553872396,202837281079699213149765844575736259095315944060610771048246603594817678831923528311990994562585284019313909165919139027091326019,712396033821932351616868822462490381124122861434848986507322852529824321381818847992924250352439865772839016498853430672476577578,0],-559799349675958243149023041528111243920862410527801771881216815243587809595474924713623051631744314549438039640085538859388599396,[-151279143106044767089815513101441711517432663573468295745730103529184394594309578953149631219854080461231028370958235909546346603,-239771768964310368334540681067837006910701812640817258499972247514604514083585800476914948116392521374550461284763470981445210872,-351259292548411181537919193080846329969869311789965849363701081249593626040362629485015730992591625205480064399957712684340931440,-424694247003411444855146851477514715910429813795428980139419467749957251963884059480211277433950262200983846038963016183720045833,-523339850901407777015626749765207552897634145012805488315350129174836181746914342580738630090328050384309992801104889853869345490,-559799349675958243149023041528111243920862410527801771881216815243587809595474924713623051631744314549438039640085538859388599396]⟩
def Vk:rX:=⟨[5055866734460492751768211705120840041899237975357819210693409331339698965515480147528501481115754752617839044324011729516849701,486787547201009472714225339921947424312773995304900935777110745518896330428818341655420145150079917148786138178721516918708501081,-371534174410100712058891411833791071451799635399645312991342278868016149935319291647640646606371079436995270097792633094699176481,393721980329173825888087799515891191599337752448102016205280277872930140505877298858326928680171223865191903719984334491924693395,-63084654763227656672328807791060097510906557521183910417099407055995627556581145158467988204647214289892093141760285854902011444,0],190670751079263851920391443869175106364653954798408653798284743976804958109287908311498838592158724017167872232008297034176454231,[51526511874931147045440232338241213598995949992787563044839448908598157867674753125734229906134315822189450689289777891276847289,81667589114729220696364644972084636377741334870882808941607336583906478613318415308555618059845523855592319917464803454474367156,119640855553949931195359567588261908639127024902064358053829611605493236398712317439776796348104234246731657126690167143378539840,144653206728547542795275835596324454222228057800040851205468589670529400521174841730692856721557840943082114239897188601911150441,178252444378226976301420740075708316236838087700956238536026635050832749472600304434409083164366447419131491572849036279690272963,190670751079263851920391443869175106364653954798408653798284743976804958109287908311498838592158724017167872232008297034176454231]⟩
def c6R:List rX:=[Vq,Vp,Vo,Vn,Vl,Vk]
def c6V:List (List Int):=[[-46477260228354403041493751,-2505632726243893919427248,58003229516542057431797140,15057295410276108388899585,-22306353907238312513566508,85438611908062355094321],[-25758522260144387158066355,6468867710079767890381561,-25120626473553828029748921,21017786884855784315416113,32137420031589499465207364,41475093799394621888898217],[-459074409943010318492609,10822464117439059568603833,-9756398330483923621702778,50098038355954498359498971,30562394815147993944910824,-11268065159585924320632353],[30420219925102840764344579,-14537544594484470209685826,25199522547478204684291748,18922988829788052015374945,13087795528133714359917485,53967158135058905287670651],[-2738906948132587203398157,33980339139849080327203319,12766138930794734537985420,-30249525070648516782987174,1661304814314177677032971,-19361663294179703925672167],[3362896834617060908787601,-29622662201364248515898145,-29845618333873557643178232,-30583155841379738043590236,-38396299710588350570382390,-33558954129317454890197270]]
def lgI (n:Nat) (p:Int):Int:=(lg p n:Int)
theorem IG:FE 6 c6E 73786976294838206464 73786976294838206464 (c6P.map (lgI 512)) c6R c6V=true:=by decide +kernel
def mU (h:Int->Int):List (Int × Int)->Int
 | []=>0
 | t::ts=>t.2*h t.1+mU h ts
def cN:List (Int × Int)->Nat
 | []=>0
 | t::ts=>t.2.natAbs+cN ts
def cfT:List (Int × Int)->Int->Int
 | [],_=>0
 | t::ts,c=>(if t.1=c then t.2 else 0)+cfT ts c
theorem qS (n:Nat):∀ ts:List (Int × Int),(aQ n ts (0,0)).1<=mU (lgI n) ts∧mU (lgI n) ts<=(aQ n ts (0,0)).2∧(aQ n ts (0,0)).2-(aQ n ts (0,0)).1<=cN ts
 | []=>by simp [aQ,mU,cN]
 | t::ts=>by
  obtain ⟨h1,h2,h3⟩:=qS n ts;obtain ⟨x,hx⟩:∃ x:Int,x=lg t.1 n:=⟨_,rfl⟩;obtain ⟨y,hy⟩:∃ y:Int,y=if t.1=2 then x else x+1:=⟨_,rfl⟩
  have hxy:y=x∨y=x+1:=by rw [hy];split <;> simp
  have e:aQ n (t::ts) (0,0)=aQ n ts (if t.2<0 then (0+y*t.2,0+x*t.2) else (0+x*t.2,0+y*t.2)):=by
   rw [hy,hx];rfl
  have e2:mU (lgI n) (t::ts)=t.2*x+mU (lgI n) ts:=by rw [hx];rfl
  rw [e,e2,px ts];simp only [cN,Wc]
  have m1:y*t.2=x*t.2∨y*t.2=x*t.2+t.2:=by
   rcases hxy with h | h
   ·left;rw [h]
   ·right;rw [h,Wp,Int.one_mul]
  rw [Yg t.2 x];by_cases hn:t.2<0
  ·rw [if_pos hn];simp only;omega
  ·rw [if_neg hn];simp only;omega
theorem Fh (f g:Int->Int):∀ (P L:List Int),ew (P.map fun c=>f c+g c) L=ew (P.map f) L+ew (P.map g) L
 | [],L=>by simp [ew]
 | p::P,[]=>by simp [ew]
 | p::P,l::L=>by
  simp only [Zw,ew,Fh f g P L,Wp];omega
theorem Fg (h:Int->Int) (a z:Int):∀ P:List Int,a ∉ P->ew (P.map fun c=>if a=c then z else 0) (P.map h)=0
 | [],_=>by simp [ew]
 | p::P,hn=>by
  simp only [Zt,not_or] at hn;simp [ew,hn.1,Fg h a z P hn.2]
theorem Iu (h:Int->Int) (a z:Int):∀ P:List Int,P.Nodup->a∈P->ew (P.map fun c=>if a=c then z else 0) (P.map h)=z*h a
 | [],_,hm=>by simp at hm
 | p::P,hn,hm=>by
  rw [W6] at hn;by_cases e:a=p
  ·subst e;simp [ew,Fg h a z P hn.1]
  ·have:a∈P:=by simpa [e] using hm
   simp [ew,e,Iu h a z P hn.2 this]
theorem Dl (h:Int->Int) {P:List Int} (hP:P.Nodup):∀ ts:List (Int × Int),(∀ t∈ts,t.1∈P)->mU h ts=ew (P.map (cfT ts)) (P.map h)
 | [],_=>by
  have:∀ P:List Int,ew (P.map (cfT [])) (P.map h)=0:=by
   intro P
   induction P with
   | nil=>rfl
   | cons p P ih=>rw [Zw,Zw,ew,ih];simp [cfT]
  rw [this];rfl
 | t::ts,hm=>by
  rw [mU,Dl h hP ts fun u hu=>hm u (by simp [hu])];have:cfT (t::ts)=fun c=>(if t.1=c then t.2 else 0)+cfT ts c:=by funext c;rfl
  rw [this,Fh,Iu h t.1 t.2 P hP (hm t (by simp))]
theorem M1 (c:Int):∀ ts:List (Int × Int),(cfT ts c).natAbs<=cN ts
 | []=>by simp [cfT]
 | t::ts=>by
  have:=M1 c ts;simp only [cfT,cN];split <;> omega
theorem CG {c:Int}:∀ ts:List (Int × Int),c ∉ ts.map Prod.fst->cfT ts c=0
 | [],_=>rfl
 | t::ts,h=>by
  simp only [Zw,Zt,not_or] at h;rw [cfT,if_neg (fun e=>h.1 e.symm),CG ts h.2];rfl
theorem AP {P:List Int} {k E B G n:Nat} {rs:List rX} {V:List (List Int)} (hc:FE k E B G (P.map (lgI n)) rs V=true) (hk:P.length=k) (hP:P.Nodup) {ts:List (Int × Int)} (hm:∀ t∈ts,t.1∈P) (hB:cN ts<=B) (hG:(mU (lgI n) ts).natAbs<=G):∀ c∈P,cfT ts c=0:=by
 intro c hcP
 have h1:=Ke hc (c:=P.map (cfT ts)) (by simpa using hk) (by
  intro x hx;obtain ⟨d,_,rfl⟩:=Zd.1 hx;exact Z3 (M1 d ts) hB) (by rw [<- Dl (lgI n) hP ts hm];exact hG)
 exact h1 _ (List.mem_map_of_mem hcP)
theorem NN {P:List Int} {k E B G n:Nat} {rs:List rX} {V:List (List Int)} (hc:FE k E B G (P.map (lgI n)) rs V=true) (hk:P.length=k) (hP:P.Nodup) {ts:List (Int × Int)} (hm:∀ t∈ts,t.1∈P) (hn:(ts.map Prod.fst).Nodup) (h0:∀ t∈ts,t.2≠0) (hB:cN ts<=B) (hG:cN ts<=G) (hne:ts≠[]) :
  0<=(aQ n ts (0,0)).1∨(aQ n ts (0,0)).2<=0:=by
 obtain ⟨g1,g2,g3⟩:=qS n ts;by_cases hd:0<=(aQ n ts (0,0)).1∨(aQ n ts (0,0)).2<=0
 ·exact hd
 ·exfalso;have hz:=AP hc hk hP hm hB (by omega);cases ts with
  | nil=>exact hne rfl
  | cons t ts=>
   have h1:=hz t.1 (hm t (by simp));simp only [Zw,W6] at hn;rw [cfT,if_pos rfl,CG ts hn.1] at h1;exact h0 t (by simp) (by omega)
theorem AE {ts:List (Int × Int)}:∀ (r n j:Nat),j<r->(0<=(aQ (n*2 ^ j) ts (0,0)).1∨(aQ (n*2 ^ j) ts (0,0)).2<=0)->∃ s,BV ts r n=some s∧(s=1∨s = -1)
 | 0,n,j,hj,_=>by omega
 | r+1,n,j,hj,h=>by
  unfold BV;by_cases h1:0<=(aQ n ts (0,0)).1
  ·exact ⟨1,by rw [if_pos h1],Or.inl rfl⟩
  ·by_cases h2:(aQ n ts (0,0)).2<=0
   ·exact ⟨-1,by rw [if_neg h1,if_pos h2],Or.inr rfl⟩
   ·rw [if_neg h1,if_neg h2];cases j with
    | zero=>simp at h;omega
    | succ j=>
     refine AE r (n*2) j (by omega) ?_;have:n*2*2 ^ j=n*2 ^ (j+1):=by rw [Nat.pow_succ,Nat.mul_assoc,Zy 2]
     rw [this];exact h
theorem Gl (ts:List (Int × Int)) : -1<=mf ts∧mf ts<=1:=by
 unfold mf;split
 ·decide
 ·split
  ·decide
  ·split <;> decide
theorem Ji {ts:List (Int × Int)} (h:ts≠[]->∃ s,BV ts 6 64=some s∧(s=1∨s = -1)):∃ z,xW ts=some z∧-1<=z∧z<=1:=by
 cases ts with
 | nil=>exact ⟨0,rfl,by decide,by decide⟩
 | cons t ts=>
  unfold xW;simp only;by_cases hq:mf (t::ts)≠0
  ·rw [if_pos hq];exact ⟨_,rfl,Gl _⟩
  ·rw [if_neg hq];obtain ⟨s,hs,hv⟩:=h (by simp);refine ⟨s,hs,?_⟩;omega
def lgC (n:Nat) (p:Int):Bool:=(Cj p.toNat n).isSome && decide (2 ^ n<=lg p n) && decide (lg p n+1<=4*2 ^ n)
theorem Tl:∀ p∈c6P,∀ i∈List.range 6,lgC (64*2 ^ i) p=true:=by decide +kernel
theorem Qx {x k:Nat} (hk:1<=k) (h:x<2 ^ (3*k)):ndg x<=k:=by
 refine a6 (Z2 h ?_) hk;rw [Nat.pow_mul];exact Nat.pow_le_pow_left (by decide) k
theorem LC {x m k:Nat} (hk:1<=k) (hm:m+2<=3*k) (h:x+1<=4*2 ^ m):ndg x<=k:=by
 refine Qx hk (Z2 (Z2 (Nat.lt_succ_self x) h) ?_);have e:4*2 ^ m=2 ^ (m+2):=by rw [Yz,Zy]
 rw [e];exact Z5 (by decide) hm
theorem Na:∀ p∈c6P,2<=p∧p<128:=by decide
theorem PT:c6P.Nodup:=by decide
theorem Nb {p:Int} (hp:p∈c6P) {i:Nat} (hi:i<6):(Cj p.toNat (64*2 ^ i)).isSome=true∧2 ^ (64*2 ^ i)<=lg p (64*2 ^ i)∧lg p (64*2 ^ i)+1<=4*2 ^ (64*2 ^ i):=by
 have:=Tl p hp i (Ws.2 hi);simp only [lgC,Z8,decide_eq_true_eq] at this;exact ⟨this.1.1,this.1.2,this.2⟩
theorem G7 {ts:List (Int × Int)} (h:∀ t∈ts,t.1∈c6P):vY ts:=by
 intro i hi t ht;obtain ⟨h1,h2,h3⟩:=Nb (h t ht) hi;obtain ⟨p1,p2⟩:=Na _ (h t ht);refine ⟨p1,by omega,h1,?_⟩;obtain ⟨k,hk⟩:∃ k,k=1500:=⟨_,rfl⟩;rw [<- hk];refine LC (by omega) ?_ h3;have:2 ^ i<=2 ^ 5:=Z5 (by decide) (by omega);omega
theorem wX {C:Nat}:∀ ts:List (Int × Int),(∀ t∈ts,t.2.natAbs<=C)->cN ts<=ts.length*C
 | [],_=>by simp [cN]
 | t::ts,h=>by
  have h1:=h t (by simp);have h2:=wX ts fun u hu=>h u (by simp [hu])
  simp only [cN,List.length_cons,Xu];omega
theorem Ri {ts:List (Int × Int)} (hm:∀ t∈ts,t.1∈c6P) (hn:(ts.map Prod.fst).Nodup) (h0:∀ t∈ts,t.2≠0) (hl:ts.length<=6) (hb:∀ t∈ts,t.2.natAbs<9223372036854775808):∃ z,xW ts=some z∧-1<=z∧z<=1:=by
 refine Ji fun hne=>AE 6 64 3 (by decide) ?_
 have h1:=wX (C:=9223372036854775808) ts fun t ht=>Nat.le_of_lt (hb t ht)
 have h2:ts.length*9223372036854775808<=6*9223372036854775808:=Z1 _ hl;have hb1:cN ts<=73786976294838206464:=by omega
 have h3:=NN (n:=512) IG rfl PT hm hn h0 hb1 hb1 hne;have e:64*2 ^ 3=512:=by decide
 rw [e];exact h3
def rp (b:Nat) (x:Q) (a:Int):Prop:=okQ x∧x.1*(b:Int)=a*(x.2:Int)
theorem H4 (n:Int) {d:Nat} (hd:0<d):(jj n d).1*(d:Int)=n*((jj n d).2:Int)∧0<(jj n d).2:=by
 obtain ⟨g,hg⟩:∃ g,g=Nat.gcd n.natAbs d:=⟨_,rfl⟩;have hg0:0<g:=by rw [hg];exact Xd _ hd
 obtain ⟨d',hd'⟩:g ∣ d:=by rw [hg];exact Nat.gcd_dvd_right ..
 obtain ⟨n',hn'⟩:(g:Int) ∣ n:=M4 (by rw [hg];exact Wm ..)
 have e1:(jj n d).1=n':=by
  simp only [jj,<- hg];rw [hn'];exact Int.mul_ediv_cancel_left _ (by omega)
 have e2:(jj n d).2=d':=by
  simp only [jj,<- hg];rw [hd'];exact Yb _ hg0
 rw [e1,e2];refine ⟨?_,?_⟩
 ·rw [hn',hd',Int.natCast_mul,<- Int.mul_assoc,Yg n' g]
 ·rcases Zg d' with h | h
  ·rw [h] at hd';omega
  ·exact h
theorem Gc {n a:Int} {d b:Nat} (hd:0<d) (h:n*(b:Int)=a*(d:Int)):rp b (jj n d) a:=by
 obtain ⟨h1,h2⟩:=H4 n hd;refine ⟨tY n hd,?_⟩;have hd':(d:Int)≠0:=by omega
 refine Xl hd' ?_
 calc (jj n d).1*(b:Int)*(d:Int)=(jj n d).1*(d:Int)*(b:Int):=by rw [Yq]
  _=n*((jj n d).2:Int)*(b:Int):=by rw [h1]
  _=n*(b:Int)*((jj n d).2:Int):=by rw [Yq]
  _=a*((jj n d).2:Int)*(d:Int):=by rw [h,Yq]
theorem K3 {b:Nat} {x y:Q} {a c:Int} (hx:rp b x a) (hy:rp b y c):rp b (nC x y) (a+c):=by
 have p1:=hx.1.1;have p2:=hy.1.1;refine Gc (Yu p1 p2) ?_;rw [Wp,Wp,Int.natCast_mul]
 have e1:x.1*(y.2:Int)*(b:Int)=a*((x.2:Int)*(y.2:Int)):=by
  rw [Yq,hx.2,Int.mul_assoc]
 have e2:y.1*(x.2:Int)*(b:Int)=c*((x.2:Int)*(y.2:Int)):=by
  rw [Yq,hy.2,Int.mul_assoc,Yg (y.2:Int)]
 rw [e1,e2]
theorem HD {b:Nat} {x:Q} {a:Int} (z:Int) (hx:rp b x a):rp b (kN x (z,1)) (z*a):=by
 have p1:=hx.1.1;refine Gc (by simpa using p1) ?_;simp only [Yl];rw [Yq,hx.2,Int.mul_assoc,Yg (x.2:Int),<- Int.mul_assoc,Yg a]
theorem KZ {b:Nat} {x:Q} {a:Int} (m:Nat) (hx:rp b x a):rp (b*m) x (a*m):=
 ⟨hx.1,by rw [Int.natCast_mul,<- Int.mul_assoc,hx.2,Yq]⟩
theorem BW (b:Nat):rp b (0,1) 0:=⟨⟨by decide,by decide⟩,by simp⟩
theorem ya {b:Nat} {x:Q} {a:Int} (h:rp b x a):x.2 ∣ b:=by
 have h1:x.1.natAbs*b=a.natAbs*x.2:=by
  have:=congrArg Int.natAbs h.2;simpa [Zi] using this
 have h2:x.2 ∣ x.1.natAbs*b:=⟨a.natAbs,by rw [h1,Zy]⟩;exact Nat.Coprime.dvd_of_dvd_mul_left (Nat.Coprime.symm h.1.2) h2
theorem K0 {b:Nat} {x:Q} {a:Int} (hb:0<b) (h:rp b x a):x.1.natAbs*(b / x.2)=a.natAbs:=by
 obtain ⟨m,hm⟩:=ya h
 have h1:x.1.natAbs*b=a.natAbs*x.2:=by
  have:=congrArg Int.natAbs h.2;simpa [Zi] using this
 have p:=h.1.1;rw [hm,Yb _ p];refine Nat.eq_of_mul_eq_mul_right p ?_;rw [<- h1,hm,Nat.mul_assoc,Zy m]
theorem K2 {b:Nat} {x:Q} {a:Int} (hb:0<b) (h:rp b x a):x.1.natAbs<=a.natAbs∧x.2<=b:=by
 have h1:=K0 hb h;have h2:=Xt hb (ya h);have h3:1<=b / x.2:=(Wy h.1.1).2 (by omega);refine ⟨?_,h2⟩;rw [<- h1];exact Zf _ h3
def bdL (b B:Nat) (s:List Q):Prop:=∀ x∈s,∃ a:Int,rp b x a∧a.natAbs<=B
theorem IJ {b B C:Nat} {s:List Q} (h:bdL b B s) (hc:B<=C):bdL b C s:=fun x hx=>by
 obtain ⟨a,h1,h2⟩:=h x hx;exact ⟨a,h1,by omega⟩
theorem uK {b B:Nat} {s:List Q} (m:Nat) (h:bdL b B s):bdL (b*m) (B*m) s:=fun x hx=>by
 obtain ⟨a,h1,h2⟩:=h x hx;refine ⟨a*m,KZ m h1,?_⟩;rw [Zi,Int.natAbs_natCast];exact Z1 _ h2
theorem xv {b A C:Nat} (z:Int):∀ {o s:List Q},bdL b A o->bdL b C s->bdL b (A+z.natAbs*C) (lO (z,1) o s)
 | x::o,y::s,ho,hs=>by
  obtain ⟨a,a1,a2⟩:=ho x (by simp);obtain ⟨c,c1,c2⟩:=hs y (by simp);have ih:=xv z (o:=o) (s:=s) (fun u hu=>ho u (by simp [hu])) fun u hu=>hs u (by simp [hu])
  intro u hu;simp only [lO,Zt] at hu;rcases hu with rfl | hu
  ·refine ⟨a+z*c,K3 a1 (HD z c1),?_⟩;have h1:=Int.natAbs_add_le a (z*c);rw [Zi] at h1;have h2:=Z4 z.natAbs c2;omega
  ·exact ih u hu
 | [],s,_,_=>by intro u hu;simp [lO] at hu
 | _::_,[],_,_=>by intro u hu;simp [lO] at hu
theorem FK (b n:Nat):bdL b 0 (List.replicate n (0,1)):=fun x hx=>by
 rw [Xx] at hx;rw [hx.2];exact ⟨0,BW b,by simp⟩
theorem uI {b B:Nat} {s:List Q} {n:Nat} {z:Int} (h:bdL b B s):bdL b (z.natAbs*B) (j8 n [s] [(z,1)]):=by
 have:=xv z (FK b n) h;simpa [j8,pP] using this
theorem CO {b A B:Nat} {s t:List Q} {n:Nat} {z w:Int} (h:bdL b A s) (h':bdL b B t):bdL b (z.natAbs*A+w.natAbs*B) (j8 n [s,t] [(z,1),(w,1)]):=by
 have:=xv w (xv z (FK b n) h) h';simpa [j8,pP] using this
theorem PX {r:List Int} {b B:Nat} (hr:∀ x∈r,x.natAbs<=B):bdL b (B*b) (ofQ r):=fun x hx=>by
 obtain ⟨y,hy,rfl⟩:=Zd.1 hx;refine ⟨y*b,⟨⟨Nat.one_pos,by simp⟩,by simp⟩,?_⟩;rw [Zi,Int.natAbs_natCast];exact Z1 _ (hr y hy)
theorem FL {b B:Nat} {s:List Q} (hb:0<b) (h:bdL b B s):∀ x∈s,okQ x:=fun x hx=>by
 obtain ⟨a,h1,h2⟩:=h x hx;exact h1.1
theorem rb {b B:Nat} {s:List Q} (hb:0<b) (h:bdL b B s) (h1:b<1000000000000000000000000000000) (h2:B<1000000000000000000000000000000):okS s:=fun x hx=>by
 obtain ⟨a,r1,r2⟩:=h x hx;obtain ⟨l1,l2⟩:=K2 hb r1;exact ⟨r1.1,a6 (d:=30) (by show _<10 ^ 30;omega) (by decide),a6 (d:=30) (by show _<10 ^ 30;omega) (by decide)⟩
theorem Iy {b:Nat}:∀ {s:List Q} {d:Nat},d ∣ b->(∀ x∈s,x.2 ∣ b)->fH d s ∣ b
 | [],d,h,_=>h
 | x::s,d,h,hs=>Iy (s:=s) (Nat.lcm_dvd h (hs x (by simp))) fun y hy=>hs y (by simp [hy])
theorem Ha {b B:Nat} {s:List Q} (h:bdL b B s):fH 1 s ∣ b:=Iy (Nat.one_dvd b) fun x hx=>by
 obtain ⟨a,r1,r2⟩:=h x hx;exact ya r1
theorem tA {b B d:Nat} (hb:0<b) (hd:d ∣ b):∀ {p:List Int} {s:List Q},bdL b B s->∀ t∈cJ d p s,t.2.natAbs<=B
 | [],s,_,t,ht=>by simp [cJ] at ht
 | p::ps,[],_,t,ht=>by simp [cJ] at ht
 | p::ps,x::s,h,t,ht=>by
  obtain ⟨a,r1,r2⟩:=h x (by simp);have ih:=tA hb hd (p:=ps) (s:=s) fun y hy=>h y (by simp [hy])
  simp only [cJ] at ht
  have hx:(x.1*((d / x.2:Nat):Int)).natAbs<=B:=by
   rw [Zi,Int.natAbs_natCast];have h1:=K0 hb r1;have h2:d / x.2<=b / x.2:=Nat.div_le_div_right (Xt hb hd);have h3:=Z4 x.1.natAbs h2;omega
  split at ht
  ·exact ih t ht
  ·simp only [Zt] at ht;rcases ht with rfl | ht
   ·exact hx
   ·exact ih t ht
theorem rr {d:Nat}:∀ {p:List Int} {s:List Q},∀ t∈cJ d p s,t.1∈p
 | [],s,t,ht=>by simp [cJ] at ht
 | p::ps,[],t,ht=>by simp [cJ] at ht
 | p::ps,x::s,t,ht=>by
  have ih:=rr (d:=d) (p:=ps) (s:=s);simp only [cJ] at ht;split at ht
  ·exact Wt _ (ih t ht)
  ·simp only [Zt] at ht;rcases ht with rfl | ht
   ·simp
   ·exact Wt _ (ih t ht)
theorem Dq {d:Nat}:∀ {p:List Int} {s:List Q},p.Nodup->((cJ d p s).map Prod.fst).Nodup
 | [],s,_=>by simp [cJ]
 | p::ps,[],_=>by simp [cJ]
 | p::ps,x::s,h=>by
  rw [W6] at h;have ih:=Dq (d:=d) (p:=ps) (s:=s) h.2;simp only [cJ];split
  ·exact ih
  ·simp only [Zw,W6];refine ⟨fun hm=>?_,ih⟩;obtain ⟨t,ht,e⟩:=Zd.1 hm;exact h.1 (by rw [<- e];exact rr t ht)
theorem Dr {d:Nat} (hd:0<d):∀ {p:List Int} {s:List Q},(∀ x∈s,0<x.2∧x.2 ∣ d)->∀ t∈cJ d p s,t.2≠0
 | [],s,_,t,ht=>by simp [cJ] at ht
 | p::ps,[],_,t,ht=>by simp [cJ] at ht
 | p::ps,x::s,h,t,ht=>by
  have ih:=Dr hd (p:=ps) (s:=s) fun y hy=>h y (by simp [hy])
  obtain ⟨h1,h2⟩:=h x (by simp);have h3:0<d / x.2:=Wb (Xt hd h2) h1;simp only [cJ] at ht;split at ht
  ·exact ih t ht
  ·rename_i hx;simp only [Zt] at ht;rcases ht with rfl | ht
   ·exact W4 hx (by omega)
   ·exact ih t ht
def in6 (p:List Int):Prop:=p.Nodup∧p.length<=6∧∀ x∈p,x∈c6P
theorem uR {p:List Int} {s:List Q} (hp:in6 p):∀ t∈tq p s,t.1∈c6P:=fun t ht=>hp.2.2 _ (rr t ht)
theorem FV {p:List Int} {s:List Q} {b B:Nat} (hp:in6 p) (hb:0<b) (h:bdL b B s) (hB:B<9223372036854775808):Gu (tq p s):=by
 refine ⟨?_,fun t ht=>?_⟩
 ·have:=om (d:=fH 1 s) p s;have:=hp.2.1;unfold tq;omega
 ·obtain ⟨h1,h2⟩:=Na _ (uR hp t ht);exact ⟨h1,h2,Ze (tA hb (Ha h) h t ht) hB⟩
theorem sg6 {p:List Int} {s:List Q} {b B:Nat} (hp:in6 p) (hb:0<b) (h:bdL b B s) (hB:B<9223372036854775808):∃ z,wC p s z∧-1<=z∧z<=1:=by
 have h1:=FV hp hb h hB;have hd:∀ x∈s,0<x.2:=fun x hx=>(FL hb h x hx).1
 have hl:(tq p s).length<=6:=by
  have:=om (d:=fH 1 s) p s;have:=hp.2.1;unfold tq;omega
 obtain ⟨z,hz,z1⟩:=Ri (uR hp) (Dq hp.1) (Dr (lZ (by decide) hd) fun x hx=>⟨hd x hx,(oJ (s:=s) (d:=1)).2 x hx⟩) hl fun t ht=>(h1.2 t ht).2.2
 exact ⟨z,⟨Gt h1,G7 (uR hp),hz⟩,z1⟩
theorem sX {most:Int}:∀ (ts:List (Int × Int)) (lo hi C:Int) (a:Int × Int),(∀ t∈ts,2<=t.1∧t.1<128)->lo<=hi->-C<=lo->hi<=C->gm most ts (lo,hi)=some a ->
  a.1<=a.2∧-(C+(cN ts:Int)*469762049)<=a.1∧a.2<=C+(cN ts:Int)*469762049
 | [],lo,hi,C,a,hl,h1,h2,h3,ha=>by
  simp only [gm,Z9] at ha;subst ha;simp [cN];omega
 | t::ts,lo,hi,C,a,hl,h1,h2,h3,ha=>by
  obtain ⟨l1,l2⟩:=hl t (by simp);simp only [gm] at ha;split at ha
  ·cases ha
  ·rename_i hc;split at ha
   ·cases ha
   ·rename_i f hf;have hflt:=A0 (p:=t.1.toNat) (by omega) (by omega) hf;obtain ⟨b,hb'⟩:∃ b:Int,b=(if t.1=2 then (f:Int) else f+1):=⟨_,rfl⟩;rw [<- hb'] at ha;have hbb:(f:Int)<=b∧b<=f+1:=by subst hb';split <;> omega
    obtain ⟨m,hm⟩:∃ m:Int,m=(t.2.natAbs:Int):=⟨_,rfl⟩
    have bd:∀ z:Int,0<=z->z<=469762049->-(m*469762049)<=t.2*z∧t.2*z<=m*469762049:=by
     intro z hz0 hz;have a1:t.2*z<=m*z:=Zp (by omega) hz0;have a2:(-m)*z<=t.2*z:=Zp (by omega) hz0;have a3:m*z<=m*469762049:=Ys hz (by omega);rw [Wq] at a2;omega
    have bx:=bd f (by omega) (by omega);have by_:=bd b (by omega) (by omega);have:=sX ts _ _ (C+m*469762049) a (fun t ht=>hl t (by simp [ht])) (by omega) (by omega) (by omega) ha
    have e:((cN (t::ts):Nat):Int)*469762049=m*469762049+(cN ts:Int)*469762049:=by
     rw [cN,Int.natCast_add,Wp,<- hm]
    rw [e];omega
theorem Cv {a b:Int} {M:Nat} (hb:0<b) (h:a.natAbs<=M*b.natAbs):(a / b).natAbs<=M:=by
 have e:((M*b.natAbs:Nat):Int)=(M:Int)*b:=by rw [Int.natCast_mul];congr 1;omega
 have h1:a<=(M:Int)*b:=by omega
 have h2:(-(M:Int))*b<=a:=by rw [Wq];omega
 have h3 : -(M:Int)<=a / b:=(W8 hb).2 h2;have h4:a / b<=(M:Int):=Int.le_of_lt_add_one ((Int.ediv_lt_iff_lt_mul hb).2 (by rw [Wp,Int.one_mul];omega));omega
theorem Eg {x y:Int × Int} {d g:Int} (h1:0<y.1) (h2:y.1<=y.2):yg x y d g=if x.1*g / ((if x.1<0 then y.1 else y.2)*d)=x.2*g / ((if x.2<0 then y.2 else y.1)*d) then some (x.1*g / ((if x.1<0 then y.1 else y.2)*d)) else none:=by
 unfold yg;have hn:¬ y.2<=0:=by omega
 simp only [hn,if_false];rw [if_neg (by omega)]
theorem O3:∀ p∈c6P,(match sk p.toNat with | some a=>decide (67108864<=a) | none=>true)=true:=by decide +kernel
theorem yu {most:Int}:∀ (ts:List (Int × Int)) (a0 a:Int × Int),(∀ t∈ts,t.1∈c6P∧0<t.2)->gm most ts a0=some a->a0.1+ts.length*67108864<=a.1
 | [],a0,a,_,h=>by
  simp only [gm,Z9] at h;subst h;simp
 | t::ts,a0,a,hl,ha=>by
  obtain ⟨l1,l2⟩:=hl t (by simp);simp only [gm] at ha;split at ha
  ·cases ha
  ·split at ha
   ·cases ha
   ·rename_i f hf;have hc:=O3 _ l1;rw [hf] at hc;have hc:67108864<=f:=of_decide_eq_true hc;obtain ⟨b,hb'⟩:∃ b:Int,b=(if t.1=2 then (f:Int) else f+1):=⟨_,rfl⟩;rw [<- hb'] at ha;have hbb:(f:Int)<=b:=by subst hb';split <;> omega
    have ih:=yu ts _ a (fun u hu=>hl u (by simp [hu])) ha
    have m1:(67108864:Int)<=t.2*f:=by
     have:=Zp (a:=1) (b:=t.2) (c:=(f:Int)) (by omega) (by omega);omega
    have m2:(67108864:Int)<=t.2*b:=by
     have:=Zp (a:=1) (b:=t.2) (c:=b) (by omega) (by omega);omega
    simp only [List.length_cons,Int.natCast_add,Wp] at ih ⊢;omega
theorem Jr {tx ty:List (Int × Int)} {d g:Nat} {q:Int} (hx:Gu tx) (hy6:∀ t∈ty,t.1∈c6P∧0<t.2) (ne:ty≠[]) (hd:0<d) (h:BY tx ty d g=some q):q.natAbs<=8*cN tx*g:=by
 unfold BY at h;split at h
 ·rename_i x y hx' hy';split at h
  ·cases h
  ·obtain ⟨a1,a2,a3⟩:=sX tx 0 0 0 x (fun t ht=>⟨(hx.2 t ht).1,(hx.2 t ht).2.1⟩) (by omega) (by omega) (by omega) hx';obtain ⟨b1,_,_⟩:=sX ty 0 0 0 y (fun t ht=>Na _ (hy6 t ht).1) (by omega) (by omega) (by omega) hy';have b2:=yu ty (0,0) y hy6 hy'
   have hlen:1<=ty.length:=by cases ty with
    | nil=>exact absurd rfl ne
    | cons t ts=>simp
   have b3:(67108864:Int)<=y.1:=by
    have:=Zp (a:=1) (b:=(ty.length:Int)) (c:=67108864) (by omega) (by omega);simp only at b2;omega
   rw [Eg (by omega) b1] at h;obtain ⟨lo,hlo⟩:∃ lo,lo=if x.1<0 then y.1 else y.2:=⟨_,rfl⟩
   rw [<- hlo] at h;obtain ⟨hi,hhi⟩:∃ hi,hi=if x.2<0 then y.2 else y.1:=⟨_,rfl⟩
   rw [<- hhi] at h;by_cases hc:x.1*(g:Int) / (lo*d)=x.2*g / (hi*d)
   ·rw [if_pos hc] at h;simp only [Z9] at h;rw [<- h];have lo0:67108864<=lo:=by rw [hlo];split <;> omega
    refine Cv (Xb (by omega) (by omega)) ?_;rw [Zi,Zi,Int.natAbs_natCast,Int.natAbs_natCast]
    have e0:x.1.natAbs<=cN tx*469762049:=by
     have e:((cN tx*469762049:Nat):Int)=(cN tx:Int)*469762049:=by rw [Int.natCast_mul];rfl
     omega
    have e1:x.1.natAbs*g<=cN tx*469762049*g:=Z1 _ e0
    have e2:cN tx*469762049*g<=8*cN tx*g*67108864:=by
     have:8*cN tx*g*67108864=cN tx*536870912*g:=by
      rw [Zy 8,W7 _ 8 g,Nat.mul_assoc (cN tx*g),W7 (cN tx) 536870912 g]
     rw [this];exact Z1 _ (Z4 _ (by decide))
    have e3:67108864<=lo.natAbs*d:=Z3 (by omega) (Zf _ hd);exact Z3 e1 (Z3 e2 (Z4 _ e3))
   ·rw [if_neg hc] at h;cases h
 ·cases h
def smT (z:Int) (ts:List (Int × Int)):List (Int × Int):=ts.map fun t=>(t.1,z*t.2)
theorem BE (h:Int->Int) (z:Int):∀ ts,mU h (smT z ts)=z*mU h ts
 | []=>by simp [smT,mU]
 | t::ts=>by
  have:=BE h z ts;unfold smT at this;simp only [smT,Zw,mU,this,Wh,Int.mul_assoc]
theorem F5 (z c:Int):∀ ts,cfT (smT z ts) c=z*cfT ts c
 | []=>by simp [smT,cfT]
 | t::ts=>by
  have:=F5 z c ts;unfold smT at this;simp only [smT,Zw,cfT,this,Wh];split <;> simp
theorem KM (z:Int):∀ ts,cN (smT z ts)=z.natAbs*cN ts
 | []=>by simp [smT,cN]
 | t::ts=>by
  have:=KM z ts;unfold smT at this;simp only [smT,Zw,cN,this,Zq,Zi]
theorem IN (h:Int->Int):∀ a b,mU h (a++b)=mU h a+mU h b
 | [],b=>by simp [mU]
 | t::a,b=>by simp only [List.cons_append,mU,IN h a b];omega
theorem Nn (c:Int):∀ a b,cfT (a++b) c=cfT a c+cfT b c
 | [],b=>by simp [cfT]
 | t::a,b=>by simp only [List.cons_append,cfT,Nn c a b];omega
theorem PY:∀ a b,cN (a++b)=cN a+cN b
 | [],b=>by simp [cN]
 | t::a,b=>by simp only [List.cons_append,cN,PY a b];omega
theorem Le {x y:Int × Int} {d g X Y:Int} {Sx Sy:Nat} (d0:0<d) (g0:0<g) (y0:0<y.1) (x1:x.1<=X) (x2:X<=x.2) (x3:x.2-x.1<=Sx) (y1:y.1<=Y) (y2:Y<=y.2) (y3:y.2-y.1<=Sy) :
  (∃ q,yg x y d g=some q∧q=x.2*g / ((if x.2<0 then y.2 else y.1)*d))∨yg x y d g=none∧∃ q:Int,q=x.2*g / ((if x.2<0 then y.2 else y.1)*d)∧(g*X-q*d*Y).natAbs<=g.natAbs*Sx+(q*d).natAbs*Sy:=by
 rw [Eg y0 (by omega)];obtain ⟨lo,hlo⟩:∃ lo,lo=if x.1<0 then y.1 else y.2:=⟨_,rfl⟩
 obtain ⟨hi,hhi⟩:∃ hi,hi=if x.2<0 then y.2 else y.1:=⟨_,rfl⟩
 rw [<- hlo,<- hhi];have lo0:y.1<=lo∧lo<=y.2:=by rw [hlo];split <;> omega
 have hi0:y.1<=hi∧hi<=y.2:=by rw [hhi];split <;> omega
 have pl:0<lo*d:=Xb (by omega) d0;have ph:0<hi*d:=Xb (by omega) d0;by_cases he:x.1*g / (lo*d)=x.2*g / (hi*d)
 ·left;exact ⟨_,by rw [if_pos he,he],rfl⟩
 ·right;refine ⟨if_neg he,_,rfl,?_⟩;obtain ⟨q1,hq1⟩:∃ q1,q1=x.1*g / (lo*d):=⟨_,rfl⟩;obtain ⟨q,hq⟩:∃ q,q=x.2*g / (hi*d):=⟨_,rfl⟩;rw [<- hq1,<- hq] at he;rw [<- hq];have g1:q1*(lo*d)<=x.1*g:=(W8 pl).1 (by omega);have hxg:x.1*g<=x.2*g:=Zp (by omega) (by omega)
  have hle:q1<=q:=by
   rw [hq];refine (W8 ph).2 ?_;refine Int.le_trans ?_ (Int.le_trans g1 hxg);by_cases hs:0<=q1
   ·have hx0:¬ x.1<0:=by
     intro hneg;have a1:0<=q1*(lo*d):=Int.mul_nonneg hs (by omega);have a2:x.1*g<0:=Int.mul_neg_of_neg_of_pos hneg g0;omega
    rw [if_neg hx0] at hlo;refine Ys (Zp (by omega) (by omega)) hs
   ·have hx0:x.1<0:=by
     have:x.1*g<0*(lo*d):=(Int.ediv_lt_iff_lt_mul pl).1 (by omega);rw [Int.zero_mul] at this;by_cases hh:x.1<0
     ·exact hh
     ·have:=Int.mul_nonneg (a:=x.1) (b:=g) (by omega) (by omega);omega
    rw [if_pos hx0] at hlo;have a3:lo*d<=hi*d:=Zp (by omega) (by omega);exact Int.mul_le_mul_of_nonpos_left (by omega) a3
  have g2:x.1*g<q*(lo*d):=(Int.ediv_lt_iff_lt_mul pl).1 (by omega);have g3:q*(hi*d)<=x.2*g:=(W8 ph).1 (by omega);obtain ⟨u,hu⟩:∃ u,u=q*d:=⟨_,rfl⟩;have e1:q*(lo*d)=u*lo:=by rw [hu,Yg lo,Int.mul_assoc]
  have e2:q*(hi*d)=u*hi:=by rw [hu,Yg hi,Int.mul_assoc]
  rw [e1] at g2;rw [e2] at g3;rw [<- hu]
  have m1:(u*(lo-Y)).natAbs<=u.natAbs*Sy:=by
   rw [Zi];exact Z4 _ (by omega)
  have m2:(u*(hi-Y)).natAbs<=u.natAbs*Sy:=by
   rw [Zi];exact Z4 _ (by omega)
  rw [Int.mul_sub] at m1 m2
  have k1:g*X<=x.1*g+g*Sx:=by
   have:g*X<=g*(x.1+Sx):=Ys (by omega) (by omega);rw [Wh,Yg g x.1] at this;exact this
  have k2:x.2*g-g*Sx<=g*X:=by
   have:g*(x.2-Sx)<=g*X:=Ys (by omega) (by omega);rw [Int.mul_sub,Yg g x.2] at this;exact this
  have e3:((g.natAbs*Sx:Nat):Int)=g*Sx:=by rw [Int.natCast_mul];congr 1;omega
  omega
theorem Im {n:Nat}:∀ ts:List (Int × Int),(∀ t∈ts,lg t.1 n+1<=4*2 ^ n)->(aQ n ts (0,0)).1.natAbs<=cN ts*(4*2 ^ n)∧(aQ n ts (0,0)).2.natAbs<=cN ts*(4*2 ^ n)
 | [],_=>by simp [aQ,cN]
 | t::ts,h=>by
  obtain ⟨h1,h2⟩:=Im ts fun u hu=>h u (by simp [hu])
  have h3:=h t (by simp);obtain ⟨P,hP⟩:∃ P,P=4*2 ^ n:=⟨_,rfl⟩;rw [<- hP] at h1 h2 h3 ⊢;obtain ⟨x,hx⟩:∃ x:Int,x=lg t.1 n:=⟨_,rfl⟩;obtain ⟨y,hy⟩:∃ y:Int,y=if t.1=2 then x else x+1:=⟨_,rfl⟩
  have hxy:y=x∨y=x+1:=by rw [hy];split <;> simp
  have e:aQ n (t::ts) (0,0)=aQ n ts (if t.2<0 then (0+y*t.2,0+x*t.2) else (0+x*t.2,0+y*t.2)):=by
   rw [hy,hx];rfl
  rw [e,px ts];simp only [cN,Wc,Nat.add_mul]
  have m1:(x*t.2).natAbs<=t.2.natAbs*P:=by
   rw [Zi,Zy];exact Z4 _ (by omega)
  have m2:(y*t.2).natAbs<=t.2.natAbs*P:=by
   rw [Zi,Zy];exact Z4 _ (by omega)
  split <;> simp only <;> omega
theorem Fe {n:Nat}:∀ ts:List (Int × Int),(∀ t∈ts,0<t.2∧2 ^ n<=lg t.1 n)->ts≠[]->((2 ^ n:Nat):Int)<=(aQ n ts (0,0)).1
 | [],_,h=>(h rfl).elim
 | t::ts,h,_=>by
  obtain ⟨h1,h2⟩:=h t (by simp);obtain ⟨P,hP⟩:∃ P:Nat,P=2 ^ n:=⟨_,rfl⟩
  have e:aQ n (t::ts) (0,0)=aQ n ts (0+(lg t.1 n:Int)*t.2,0+(if t.1=2 then (lg t.1 n:Int) else (lg t.1 n:Int)+1)*t.2):=by
   have:¬ t.2<0:=by omega
   simp only [aQ,this,if_false]
  rw [e,px ts];simp only [Wc]
  have h3:(lg t.1 n:Int)<=lg t.1 n*t.2:=by
   have:=Ys (a:=1) (b:=t.2) (c:=(lg t.1 n:Int)) (by omega) (by omega);simpa using this
  have h4:0<=(aQ n ts (0,0)).1:=by
   by_cases ht:ts=[]
   ·rw [ht];simp [aQ]
   ·have:=Fe ts (fun u hu=>h u (by simp [hu])) ht;omega
  rw [<- hP] at h2 ⊢;omega
theorem Mo {tx ty:List (Int × Int)} {d g:Nat} {i:Nat} (hi:i<6) (d0:0<d) (g0:0<g) (hx:∀ t∈tx,t.1∈c6P) (hy:∀ t∈ty,t.1∈c6P∧0<t.2) (ne:ty≠[]) :
  (∃ q:Int,yg (aQ (64*2 ^ i) tx (0,0)) (aQ (64*2 ^ i) ty (0,0)) d g=some q∧q.natAbs<=4*cN tx*g)∨(yg (aQ (64*2 ^ i) tx (0,0)) (aQ (64*2 ^ i) ty (0,0)) d g=none∧∃ q:Int,q.natAbs<=4*cN tx*g∧((g:Int)*mU (lgI (64*2 ^ i)) tx-q*d*mU (lgI (64*2 ^ i)) ty).natAbs<=g*cN tx+(q*d).natAbs*cN ty):=by
 obtain ⟨n,hn⟩:∃ n,n=64*2 ^ i:=⟨_,rfl⟩;have hx1:∀ t∈tx,lg t.1 n+1<=4*2 ^ n:=fun t ht=>by rw [hn];exact (Nb (hx t ht) hi).2.2
 have hy1:∀ t∈ty,0<t.2∧2 ^ n<=lg t.1 n:=fun t ht=>by rw [hn];exact ⟨(hy t ht).2,(Nb (hy t ht).1 hi).2.1⟩
 rw [<- hn];obtain ⟨x1,x2,x3⟩:=qS n tx;obtain ⟨y1,y2,y3⟩:=qS n ty;obtain ⟨b1,b2⟩:=Im tx hx1;have yp:=Fe ty hy1 ne;have p2:0<2 ^ n:=Yf (by decide);obtain ⟨P,hP⟩:∃ P:Nat,P=2 ^ n:=⟨_,rfl⟩;rw [<- hP] at b1 b2 yp p2;have y0:0<(aQ n ty (0,0)).1:=by omega
 have hh:=Le (d:=(d:Int)) (g:=(g:Int)) (by omega) (by omega) y0 x1 x2 x3 y1 y2 y3;obtain ⟨x,hx'⟩:∃ x,x=aQ n tx (0,0):=⟨_,rfl⟩;obtain ⟨y,hy'⟩:∃ y,y=aQ n ty (0,0):=⟨_,rfl⟩;rw [<- hx'] at x1 x2 x3 b1 b2 hh ⊢;rw [<- hy'] at y1 y2 y3 yp y0 hh ⊢
 have hb:∀ q,q=x.2*(g:Int) / ((if x.2<0 then y.2 else y.1)*(d:Int))->q.natAbs<=4*cN tx*g:=by
  intro q hq;rw [hq];obtain ⟨hi',hhi⟩:∃ hi',hi'=if x.2<0 then y.2 else y.1:=⟨_,rfl⟩
  rw [<- hhi];have hi0:(P:Int)<=hi':=by rw [hhi];split <;> omega
  refine Cv (Xb (by omega) (by omega)) ?_;rw [Zi,Zi,Int.natAbs_natCast,Int.natAbs_natCast];have e1:x.2.natAbs*g<=cN tx*(4*P)*g:=Z1 _ b2
  have e2:cN tx*(4*P)*g=4*cN tx*g*P:=by
   rw [Zy 4 P,<- Nat.mul_assoc,Zy 4 (cN tx),W7 (cN tx) P 4,W7 _ P g]
  have e3:P<=hi'.natAbs*d:=Z3 (by omega) (Zf _ d0);rw [e2] at e1;exact Z3 e1 (Z4 _ e3)
 rcases hh with ⟨q,h1,h2⟩ | ⟨h0,q,h1,h2⟩
 ·exact Or.inl ⟨q,h1,hb q h2⟩
 ·exact Or.inr ⟨h0,q,hb q h1,by simpa using h2⟩
theorem OA {tx ty:List (Int × Int)} {d g:Nat} (d0:0<d) (g0:0<g) (hx:∀ t∈tx,t.1∈c6P) (hy:∀ t∈ty,t.1∈c6P∧0<t.2) (ne:ty≠[]) (hb:g*cN tx+4*cN tx*g*d*cN ty<=73786976294838206464) :
  (∃ q:Int,∀ c∈c6P,(g:Int)*cfT tx c=q*d*cfT ty c)∨∀ r i,i+r=6->i<=3->∃ q,Co tx ty d g r (64*2 ^ i)=some q∧q.natAbs<=4*cN tx*g:=by
 by_cases hp:∃ q:Int,∀ c∈c6P,(g:Int)*cfT tx c=q*d*cfT ty c
 ·exact Or.inl hp
 ·right;intro r
  induction r with
  | zero=>intro i h1 h2;omega
  | succ r ih=>
   intro i h1 h2;unfold Co;rcases Mo (d:=d) (g:=g) (i:=i) (by omega) d0 g0 hx hy ne with ⟨q,q1,q2⟩ | ⟨q0,q,q1,h⟩
   ·exact ⟨q,by rw [q1],q2⟩
   ·rw [q0];simp only;by_cases hi:i=3
    ·exfalso;subst hi;have e:64*2 ^ 3=512:=by decide
     rw [e] at h
     ·refine hp ⟨q,fun c hc=>?_⟩
      have hm:∀ t∈smT g tx++smT (-(q*d)) ty,t.1∈c6P:=by
       intro t ht;rcases Yc.1 ht with ht | ht
       ·obtain ⟨u,hu,rfl⟩:=Zd.1 ht;exact hx u hu
       ·obtain ⟨u,hu,rfl⟩:=Zd.1 ht;exact (hy u hu).1
      have hS:cN (smT g tx++smT (-(q*d)) ty)=g*cN tx+(q*d).natAbs*cN ty:=by
       rw [PY,KM,KM,X8,Int.natAbs_natCast]
      have hle:g*cN tx+(q*d).natAbs*cN ty<=73786976294838206464:=by
       refine Z3 (Nat.add_le_add_left (Z1 _ ?_) _) hb;rw [Zi,Int.natAbs_natCast];exact Z1 _ q1
      have hs:mU (lgI 512) (smT g tx++smT (-(q*d)) ty)=(g:Int)*mU (lgI 512) tx-q*d*mU (lgI 512) ty:=by
       rw [IN,BE,BE,Wq];omega
      have:=AP (n:=512) IG rfl PT hm (by rw [hS];exact hle) (by rw [hs];exact Z3 h hle) c hc;rw [Nn,F5,F5,Wq] at this;omega
    ·have:=ih (i+1) (by omega) (by omega);have e:64*2 ^ i*2=64*2 ^ (i+1):=by rw [Nat.pow_succ,Nat.mul_assoc]
     rw [e];exact this
theorem Ol (n d:Int):(nD n d).1.natAbs<=n.natAbs:=by
 unfold nD;split
 ·have:=(xj (-n) d.natAbs).1;rwa [X8] at this
 ·exact (xj n d.natAbs).1
theorem Ed {A m:Nat}:∀ {a b:List Q} {k:Q},(∀ x∈a,0<x.2∧x.1.natAbs<=A)->(∀ y∈b,0<y.2∧y.2<=m)->0<k.2->k.1.natAbs<=A*m->0<(gM k a b).2∧(gM k a b).1.natAbs<=A*m
 | [],b,k,_,_,h1,h2=>by simpa [gM] using ⟨h1,h2⟩
 | x::a,[],k,_,_,h1,h2=>by simpa [gM] using ⟨h1,h2⟩
 | x::a,y::b,k,ha,hb,h1,h2=>by
  obtain ⟨x1,x2⟩:=ha x (by simp);obtain ⟨y1,y2⟩:=hb y (by simp);simp only [gM];refine Ed (fun u hu=>ha u (by simp [hu])) (fun u hu=>hb u (by simp [hu])) ?_ ?_
  ·split
   ·exact h1
   ·rename_i h;exact (H3 (W4 (by omega) h)).1
  ·split
   ·exact h2
   ·unfold wD;refine Z3 (Ol _ _) ?_;rw [Zi,Int.natAbs_natCast];exact Zs x2 y2
def GB (q:Int):List Q->List Q->Prop
 | x::a,y::b=>x.1*(y.2:Int)=q*(y.1*(x.2:Int))∧GB q a b
 | _,_=>True
theorem lG {x:Q} (hx:okQ x) {n:Int} {d:Nat} (hd:0<d) (h:x.1*(d:Int)=n*(x.2:Int)):jj n d=x:=by
 obtain ⟨h1,h2⟩:=H4 n hd;have ho:=tY n hd;obtain ⟨y,hy⟩:∃ y,y=jj n d:=⟨_,rfl⟩;rw [<- hy] at h1 h2 ho ⊢;have hd':(d:Int)≠0:=by omega
 have e:x.1*(y.2:Int)=y.1*(x.2:Int):=by
  refine Xl hd' ?_;rw [Yq,h,Yq y.1,h1,Yq]
 have e1:x.2 ∣ y.2:=ya (b:=y.2) (a:=y.1) ⟨hx,e⟩;have e2:y.2 ∣ x.2:=ya (b:=x.2) (a:=x.1) ⟨ho,e.symm⟩;have e3:x.2=y.2:=Nat.dvd_antisymm e1 e2;rw [e3] at e;have e4:=Xl (by omega) e;exact Prod.ext e4.symm e3.symm
theorem BX {q:Int}:∀ {a b:List Q} {k:Q},(∀ x∈a,okQ x)->(∀ y∈b,okQ y)->GB q a b->(k=(q,1)∨True)->gM k a b=(q,1)∨(gM k a b=k∧∀ i,i<a.length->∀ y,b[i]? = some y->y.1=0)
 | [],b,k,_,_,_,_=>Or.inr ⟨by simp [gM],fun i h=>by simp at h⟩
 | x::a,[],k,_,_,_,_=>Or.inr ⟨by simp [gM],fun i h y hy=>by simp at hy⟩
 | x::a,y::b,k,ha,hb,hm,_=>by
  have hx:=ha x (by simp);have hy:=hb y (by simp);obtain ⟨m1,m2⟩:=hm;simp only [gM];by_cases h0:y.1=0
  ·rw [if_pos h0];rcases BX (k:=k) (fun u hu=>ha u (by simp [hu])) (fun u hu=>hb u (by simp [hu])) m2 (Or.inr trivial) with h | ⟨h,h'⟩
   ·exact Or.inl h
   ·refine Or.inr ⟨h,fun i hi z hz=>?_⟩;cases i with
    | zero=>simp at hz;rw [<- hz];exact h0
    | succ i=>exact h' i (by simpa using hi) z (by simpa using hz)
  ·rw [if_neg h0]
   have e:wD x y=(q,1):=by
    unfold wD nD;rw [m1];have p1:=hx.1;by_cases hn:(x.2:Int)*y.1<0
    ·rw [if_pos hn];refine lG ⟨Nat.one_pos,by simp⟩ (by omega) ?_;have:(((x.2:Int)*y.1).natAbs:Int) = -((x.2:Int)*y.1):=by omega
     rw [this,Yg (x.2:Int)];simp [Int.mul_neg]
    ·rw [if_neg hn];have hne:(x.2:Int)*y.1≠0:=W4 (by omega) h0;refine lG ⟨Nat.one_pos,by simp⟩ (by omega) ?_;have:(((x.2:Int)*y.1).natAbs:Int)=(x.2:Int)*y.1:=by omega
     rw [this,Yg (x.2:Int)];simp
   rw [e];rcases BX (k:=(q,1)) (fun u hu=>ha u (by simp [hu])) (fun u hu=>hb u (by simp [hu])) m2 (Or.inr trivial) with h | ⟨h,h'⟩
   ·exact Or.inl h
   ·exact Or.inl h
theorem HK {q:Int}:∀ {a b:List Q},(∀ x∈a,okQ x)->(∀ y∈b,okQ y)->GB q a b->jq (q,1) a b=true
 | [],b,_,_,_=>by simp [jq]
 | x::a,[],_,_,_=>by simp [jq]
 | x::a,y::b,ha,hb,hm=>by
  have hx:=ha x (by simp);have hy:=hb y (by simp);obtain ⟨m1,m2⟩:=hm;simp only [jq,Z8,decide_eq_true_eq];refine ⟨?_,HK (fun u hu=>ha u (by simp [hu])) (fun u hu=>hb u (by simp [hu])) m2⟩;unfold kN;refine lG hx (by have:=hy.1;omega) ?_;simp only [Xs];rw [m1,Int.mul_assoc]
theorem HN {q:Int}:∀ {a b:List Q},a.length=b.length->(∀ x∈a,okQ x)->(∀ y∈b,okQ y)->GB q a b->(∀ i,i<a.length->∀ y,b[i]? = some y->y.1=0)->jq (0,1) a b=true
 | [],b,_,_,_,_,_=>by simp [jq]
 | x::a,[],_,_,_,_,_=>by simp [jq]
 | x::a,y::b,hl,ha,hb,hm,h0=>by
  have hx:=ha x (by simp);have hy:=hb y (by simp);obtain ⟨m1,m2⟩:=hm;have y0:y.1=0:=h0 0 (by simp) y (by simp);simp only [jq,Z8,decide_eq_true_eq];refine ⟨?_,HN (by simpa using hl) (fun u hu=>ha u (by simp [hu])) (fun u hu=>hb u (by simp [hu])) m2 fun i hi z hz=>h0 (i+1) (by simpa using hi) z (by simpa using hz)⟩;unfold kN;have p:=hy.1;refine lG hx (by omega) ?_
  rw [y0] at m1;simp only [Int.zero_mul,Int.mul_zero,Xs] at m1 ⊢;exact m1
theorem NT {q:Int} {a b:List Q} (hl:a.length=b.length) (ha:∀ x∈a,okQ x) (hb:∀ y∈b,okQ y) (hm:GB q a b):jq (gM (0,1) a b) a b=true:=by
 rcases BX (k:=(0,1)) ha hb hm (Or.inr trivial) with h | ⟨h,h'⟩
 ·rw [h];exact HK ha hb hm
 ·rw [h];exact HN hl ha hb hm h'
theorem M0 {d g:Nat} {q:Int} (d0:0<d) (g0:0<g):∀ {p:List Int} {a b:List Q},p.Nodup->a.length=p.length->b.length=p.length->(∀ x∈a,0<x.2∧x.2 ∣ d)->(∀ y∈b,0<y.2∧y.2 ∣ g) ->
  (∀ c∈p,(g:Int)*cfT (cJ d p a) c=q*d*cfT (cJ g p b) c)->GB q a b
 | [],a,b,_,la,lb,_,_,_=>by
  have:a=[]:=Ym.1 la;subst this;simp [GB]
 | c::p,[],b,_,la,_,_,_,_=>by simp at la
 | c::p,x::a,[],_,_,lb,_,_,_=>by simp at lb
 | c::p,x::a,y::b,hn,la,lb,ha,hb,h=>by
  rw [W6] at hn;obtain ⟨x1,dx,hdx⟩:=ha x (by simp);obtain ⟨y1,gy,hgy⟩:=hb y (by simp)
  have k1:∀ (D:Nat) (s:List Q),cfT (cJ D p s) c=0:=fun D s=>CG _ fun hm=>by
   obtain ⟨t,ht,e⟩:=Zd.1 hm;exact hn.1 (by rw [<- e];exact rr t ht)
  have k2:∀ (D:Nat) (z:Q) (s:List Q),cfT (cJ D (c::p) (z::s)) c=z.1*((D / z.2:Nat):Int):=fun D z s=>by
   simp only [cJ];split
   ·rename_i h0;rw [k1,h0];simp
   ·simp [cfT,k1]
  have k3:∀ (D:Nat) (z:Q) (s:List Q) (e:Int),e≠c->cfT (cJ D (c::p) (z::s)) e=cfT (cJ D p s) e:=fun D z s e he=>by
   simp only [cJ];split
   ·rfl
   ·simp [cfT,Ne.symm he]
  refine ⟨?_,M0 d0 g0 hn.2 (by simpa using la) (by simpa using lb) (fun u hu=>ha u (by simp [hu])) (fun u hu=>hb u (by simp [hu])) fun e he=>?_⟩
  ·have:=h c (by simp);rw [k2,k2,hdx,hgy,Yb _ x1,Yb _ y1] at this
   have dx0:0<dx:=by
    rcases Zg dx with h | h
    ·rw [h] at hdx;omega
    ·exact h
   have gy0:0<gy:=by
    rcases Zg gy with h | h
    ·rw [h] at hgy;omega
    ·exact h
   have hne:(gy:Int)*(dx:Int)≠0:=W4 (by omega) (by omega);refine Xl hne ?_;rw [Int.natCast_mul,Int.natCast_mul] at this
   have l:(y.2:Int)*(gy:Int)*(x.1*(dx:Int))=x.1*(y.2:Int)*((gy:Int)*(dx:Int)):=by
    simp only [Yg,Wv,Int.mul_assoc]
   have r:q*((x.2:Int)*(dx:Int))*(y.1*(gy:Int))=q*(y.1*(x.2:Int))*((gy:Int)*(dx:Int)):=by
    simp only [Yg,Wv,Int.mul_assoc]
   rw [<- l,<- r];exact this
  ·have hec:e≠c:=fun hh=>hn.1 (hh ▸ he)
   have:=h e (by simp [he])
   rwa [k3 _ _ _ _ hec,k3 _ _ _ _ hec] at this
theorem U9 {p:List Int} {a b:List Q} {n A m B:Nat} (hp:in6 p) (n0:0<n) (m0:0<m) (ha:bdL n A a) (hb:bdL m B b) (la:a.length=p.length) (lb:b.length=p.length) (hpos:∀ t∈tq p b,0<t.2) (ne:tq p b≠[])
  (hA:A<9223372036854775808) (hB:B<9223372036854775808) (hn:n<9223372036854775808) (hm:m<9223372036854775808) (hQ:A*m*48<9223372036854775808) (hC:m*(6*A)+4*(6*A)*m*n*(6*B)<=73786976294838206464) :
  ∃ q:Int,ui p a b q∧q.natAbs<=A*m*48:=by
 have oa:=FL n0 ha;have ob:=FL m0 hb;have hAm:A*m<=A*m*48:=Zf _ (by decide);by_cases hr:jq (gM (0,1) a b) a b=true
 ·obtain ⟨k1,k2⟩:=Ed (A:=A) (m:=m) (a:=a) (b:=b) (k:=(0,1)) (fun x hx=>by
   obtain ⟨z,z1,z2⟩:=ha x hx;exact ⟨(oa x hx).1,by have:=(K2 n0 z1).1;omega⟩) (fun y hy=>by
   obtain ⟨z,z1,z2⟩:=hb y hy;exact ⟨(ob y hy).1,(K2 m0 z1).2⟩) (by decide) (by simp)
  refine ⟨_,Or.inl ⟨hr,rfl⟩,Z3 (Cv (M:=(gM (0,1) a b).1.natAbs) (by omega) ?_) (Z3 k2 hAm)⟩;exact Zf _ (by omega)
 ·have hr':jq (gM (0,1) a b) a b=false:=by simpa using hr
  have tx:=FV hp n0 ha hA;have ty:=FV hp m0 hb hB;have d1:=Ha ha;have g1:=Ha hb;have dle:=Xt n0 d1;have gle:=Xt m0 g1;have d0:0<fH 1 a:=lZ (by decide) fun x hx=>(oa x hx).1
  have g0:0<fH 1 b:=lZ (by decide) fun x hx=>(ob x hx).1
  have lx:(tq p a).length<=6:=by
   have:=om (d:=fH 1 a) p a;have:=hp.2.1;unfold tq;omega
  have ly:(tq p b).length<=6:=by
   have:=om (d:=fH 1 b) p b;have:=hp.2.1;unfold tq;omega
  have sx:cN (tq p a)<=6*A:=Z3 (wX (C:=A) _ fun t ht=>tA n0 d1 ha t ht) (Z1 _ lx);have sy:cN (tq p b)<=6*B:=Z3 (wX (C:=B) _ fun t ht=>tA m0 g1 hb t ht) (Z1 _ ly);have hx6:∀ t∈tq p a,t.1∈c6P:=uR hp;have hy6:∀ t∈tq p b,t.1∈c6P∧0<t.2:=fun t ht=>⟨uR hp t ht,hpos t ht⟩
  have bQ:8*cN (tq p a)*fH 1 b<=A*m*48:=by
   have e:A*m*48=8*(6*A)*m:=by
    rw [W7 A m,<- Nat.mul_assoc,Zy A]
   rw [e];exact Zs (Z4 _ sx) gle
  cases hq:BY (tq p a) (tq p b) (fH 1 a) (fH 1 b) with
  | some q=>
   have h1:=Jr tx hy6 ne d0 hq;refine ⟨q,Or.inr ⟨hr',tx,ty,by omega,by omega,Or.inl ⟨hq,by omega,by omega⟩⟩,by omega⟩
  | none=>
   rcases OA (tx:=tq p a) (ty:=tq p b) d0 g0 hx6 hy6 ne (by
    refine Z3 (Nat.add_le_add (Zs gle sx) ?_) hC;exact Zs (Zs (Zs (Z4 4 sx) gle) dle) sy) with ⟨q,h⟩ | h
   ·exfalso;refine hr (NT (by omega) oa ob (M0 (q:=q) d0 g0 hp.1 la lb (fun x hx=>⟨(oa x hx).1,(oJ (s:=a) (d:=1)).2 x hx⟩) (fun y hy=>⟨(ob y hy).1,(oJ (s:=b) (d:=1)).2 y hy⟩) fun c hc=>h c (hp.2.2 c hc)))
   ·obtain ⟨q,q1,q2⟩:=h 6 0 (by decide) (by decide);refine ⟨q,Or.inr ⟨hr',tx,ty,by omega,by omega,Or.inr ⟨hq,G7 hx6,G7 (uR hp),fun i _=>?_,by simpa using q1⟩⟩,?_⟩
    ·obtain ⟨y1,y2,_⟩:=qS (64*2 ^ i) (tq p b);omega
    ·refine Z3 q2 (Z3 ?_ bQ);have e:4*cN (tq p a)*fH 1 b<=8*cN (tq p a)*fH 1 b:=Z1 _ (by omega);exact e
theorem xk {z:Int} {n:Nat} (h0:0<n) (h1:n<1000000000000000000) (h2 : -1000000000000000000<z) (h3:z<1000000000000000000) (hg:Nat.gcd z.natAbs n=1):CP Y F.bE [I z,I n] (.agg (qT (z,n))):=by
 refine pQ ?_;have fo:=E0 (n:=z) (d:=(n:Int)) (by omega) (by omega) (by omega) (by omega) (by omega);rw [yw h0,EJ hg] at fo;have fo':CP Y F.gR [I z,I n] (.tup [.agg [S (itoa z),S (aa n)],I 0]):=fo;simp (disch:=first|omega|simp<;>omega|fail)[bE];refine cd fo' ?_;simp (disch:=first|omega|simp<;>omega|fail)[];exact iQ rfl rfl
theorem LK {p:List Int} {n:Nat} (hp:pcB p=0) (hN:p.length<=20) (hl:0<p.length) (h0:0<n) (h1:n<=10000) (hr:okS (bT p n)):CP Y F.cS [lst di p,I n] (szV (bT p n)):=by
 refine rS ?_;have eq:=A1 hp (by omega) hl;have nu:=xk (z:=1) (n:=n) h0 (by omega) (by omega) (by omega) (by simp);have le:(eW p.length).length=p.length:=by simp [eW];omega
 have sc:=tG (p:=p) (s:=eW p.length) (k:=(1,n)) hp (by omega) le (yV _) (PN h0 h1) hr;simp (disch:=first|omega|simp<;>omega|fail)[cS];refine cd eq ?_;simp (disch:=first|omega|simp<;>omega|fail)[];refine cd nu ?_;simp (disch:=first|omega|simp<;>omega|fail)[];refine cd sc ?_ (by simp [ae,aA,szV,dI,qT]);simp (disch:=first|omega|simp<;>omega|fail)[]
 exact ⟨_,nE _ _⟩
theorem Fb {s t:List Int} (hN:s.length<1000000) (k:KL):∀ (q r a b:List Int),a++q=s->b++r=t->a.length=b.length->q.length=r.length->(q=r->k (.exit 0) [] [])->(q≠r->k .ret [B false] []) ->
  lp (cL (CX Y) (lst di s) (lst di t)) [] [] [I a.length] [] k
 | [],r,a,b,ha,hb,hab,hqr,h0,h1=>by
  simp at ha;subst ha
  have:r=[]:=by cases r with
   | nil=>rfl
   | cons y r=>simp at hqr
  refine aj ?_;simp (disch:=first|omega|simp<;>omega|fail)[cL];exact h0 this.symm
 | x::q,[],a,b,ha,hb,hab,hqr,h0,h1=>by simp at hqr
 | x::q,y::r,a,b,ha,hb,hab,hqr,h0,h1=>by
  have hal:a.length<s.length:=by subst ha;simp
  have hbl:a.length<t.length:=by subst hb;simp;omega
  have hx:nth 0 s a.length=x:=by subst ha;simp
  have hy:nth 0 t a.length=y:=by subst hb;rw [hab];simp
  have i1:=d6 di s [] (k:=.i64) (i:=(a.length:Int)) (by omega) (by omega);have i2:=fA di 0 s [] (j:=a.length) hal;have j1:=d6 di t [] (k:=.i64) (i:=(a.length:Int)) (by omega) (by omega);have j2:=fA di 0 t [] (j:=a.length) hbl;rw [hx] at i2;rw [hy] at j2;simp only [Int.toNat_natCast] at i1 j1;have g1:(a.length:Int)<(s.length:Int):=by omega
  refine aj ?_;by_cases hxy:x=y
  ·subst hxy;have ih:=Fb hN k q r (a++[x]) (b++[x]) (by simpa using ha) (by simpa using hb) (by simp [hab]) (by simpa using hqr) (fun e=>h0 (by rw [e])) (fun e=>h1 (by simpa using e));simp (disch:=first|omega|simp<;>omega|fail)[cL,i1,i2,j1,j2,g1,hx,hy];simpa using ih
  ·simp (disch:=first|omega|simp<;>omega|fail)[cL,i1,i2,j1,j2,g1,hx,hy,hxy];exact h1 (by simp [hxy])
theorem Cr {s t:List Int} (hN:s.length<1000000):CP Y F.bO [lst di s,lst di t] (B (decide (s=t))):=by
 refine nR ?_;have l1:am (lst di s)=some (I s.length):=rfl;have l2:am (lst di t)=some (I t.length):=rfl;by_cases h:s.length=t.length
 ·have g:((s.length:Int)=(t.length:Int))=True:=eq_true (by omega);simp (disch:=first|omega|simp<;>omega|fail)[bO,l1,l2,g]
  have:=Fb (s:=s) (t:=t) hN (exK [(Exit.exit 0,fun l5 h=>out (B (decide (s=t))) (V.d (D.bool true)) h),(Exit.ret,fun l5 h=>out (B (decide (s=t))) (ge l5 0) h)]) s t [] [] rfl rfl rfl h (fun g=>by
   simp (disch:=first|omega|simp<;>omega|fail)[];exact iP (by simp [g])) (fun g=>by
   simp (disch:=first|omega|simp<;>omega|fail)[];exact iP (by simp [g]))
  refine lo ?_;exact this
 ·have g:¬ ((s.length:Int)=(t.length:Int)):=by omega
  have:¬ s=t:=fun e=>h (by rw [e])
  simp (disch:=first|omega|simp<;>omega|fail)[bO,l1,l2,g] <;> exact iP (by simp [this])
theorem DX {s t:List Int} (hN:s.length<1000000):CP Y F.cV [lst di s,lst di t] (B (decide (s=t))):=by
 refine ow ?_;simp (disch:=first|omega|simp<;>omega|fail)[cV];refine cd (Cr hN) ?_;simp (disch:=first|omega|simp<;>omega|fail)[] <;> exact iP rfl
theorem Hg (n k:Nat) (hn:0<n):lO (1,n) (List.replicate k (0,1)) (List.replicate k (0,1))=List.replicate k (0,1):=by
 induction k with
 | zero=>simp [lO]
 | succ k ih=>
  rw [List.replicate_succ,lO,ih];have e1:kN ((0,1):Q) (1,n)=(0,1):=lG ⟨Nat.one_pos,by simp⟩ (by simpa using hn) (by simp);have e2:nC ((0,1):Q) (0,1)=(0,1):=by decide
  rw [e1,e2]
theorem tB {p:List Int} {n:Nat} (hl:0<p.length) (h0:0<n):bT p n=(1,n)::List.replicate (p.length-1) (0,1):=by
 obtain ⟨k,hk⟩:∃ k,p.length=k+1:=⟨p.length-1,by omega⟩;unfold bT j8 eW;rw [hk,List.replicate_succ];simp only [pP,lO,Xa];rw [Hg n k h0];have e1:kN ((1,1):Q) (1,n)=(1,n):=lG ⟨h0,by simp⟩ (by simpa using h0) (by simp);rw [e1];have e2:nC ((0,1):Q) (1,n)=(1,n):=lG ⟨h0,by simp⟩ (by simpa using h0) (by simp);rw [e2]
theorem uJ {p:List Int} {n:Nat} (hl:0<p.length) (h0:0<n):bdL n 1 (bT p n):=by
 rw [tB hl h0];intro x hx;simp only [Zt,Xx] at hx;rcases hx with rfl | ⟨_,rfl⟩
 ·exact ⟨1,⟨⟨h0,by simp⟩,by simp⟩,by decide⟩
 ·exact ⟨0,BW n,by decide⟩
theorem Az {d:Nat} (hd:0<d):∀ {p:List Int} {s:List Q},(∀ x∈s,0<=x.1∧0<x.2∧x.2 ∣ d)->∀ t∈cJ d p s,0<t.2
 | [],s,_,t,ht=>by simp [cJ] at ht
 | p::ps,[],_,t,ht=>by simp [cJ] at ht
 | p::ps,x::s,h,t,ht=>by
  have ih:=Az hd (p:=ps) (s:=s) fun y hy=>h y (by simp [hy])
  obtain ⟨h0,h1,h2⟩:=h x (by simp);have h3:0<d / x.2:=Wb (Xt hd h2) h1;simp only [cJ] at ht;split at ht
  ·exact ih t ht
  ·rename_i hx;simp only [Zt] at ht;rcases ht with rfl | ht
   ·exact Xb (by omega) (by omega)
   ·exact ih t ht
theorem Ku {p:List Int} {x:Q} {s:List Q} (hp:0<p.length) (hx:x.1≠0):tq p (x::s)≠[]:=by
 cases p with
 | nil=>simp at hp
 | cons c p=>simp [tq,cJ,hx]
theorem NQ {p:List Int} {n:Nat} (hl:0<p.length) (h0:0<n):∃ x:Q,qG p (bT p n)=x::List.replicate (p.length-1) (0,1)∧0<x.1:=by
 obtain ⟨k,hk⟩:∃ k,p.length=k+1:=⟨p.length-1,by omega⟩;rw [tB hl h0];unfold qG j8;rw [hk,List.replicate_succ];simp only [pP,lO,Xa]
 have e:∀ k,lO (2,1) (List.replicate k (0,1)) (List.replicate k (0,1))=List.replicate k (0,1):=by
  intro k
  induction k with
  | zero=>simp [lO]
  | succ k ih=>
   rw [List.replicate_succ,lO,ih];have:nC ((0,1):Q) (kN (0,1) (2,1))=(0,1):=by decide
   rw [this]
 rw [e k];refine ⟨_,rfl,?_⟩;have r1:rp n ((1,n):Q) 1:=⟨⟨h0,by simp⟩,by simp⟩;have r2:=K3 (BW n) (HD 2 r1);have h:=r2.2;have h':=r2.1.1;obtain ⟨y,hy⟩:∃ y:Q,y=nC (0,1) (kN (1,n) (2,1)):=⟨_,rfl⟩;rw [<- hy] at h h' ⊢;have h2:0<y.1*(n:Int):=by rw [h];omega
 by_cases hy0:0<y.1
 ·exact hy0
 ·have:=Int.mul_nonneg (a:=-y.1) (b:=(n:Int)) (by omega) (by omega);rw [Wq] at this;omega
theorem Po {z:Int} (h1 : -1<=z) (h2:z<=1):(uN z).natAbs<=1:=by
 have:z = -1∨z=0∨z=1:=by omega
 rcases this with rfl | rfl | rfl <;> decide
theorem Qf {r:List Int} (hr:∀ x∈r,x.natAbs<=9):smR r=true:=by
 unfold smR;rw [Zz];intro x hx;have:=hr x hx;simp only [Z8,decide_eq_true_eq];omega
theorem G9 {p r:List Int} {n:Nat} {q:Int} (hl:0<p.length) (h0:0<n) (hr:∀ x∈r,x.natAbs<=9):bdL n (q.natAbs+9*n) (nI p n q (ofQ r)):=by
 have h1:bdL n (q.natAbs*1) (jf p n q):=uI (uJ hl h0);have h2:=PX (b:=n) hr;have:=CO (n:=p.length) (z:=1) (w:=-1) h1 h2;unfold nI;simpa using this
theorem nr6 {p:List Int} {s:List Q} {n b A:Nat} (hp:in6 p) (hl:0<p.length) (h0:0<n) (h1:n<=10000) (hb0:0<b) (hb1:b<=12) (hA1:A<=600) (ls:s.length=p.length) (hs:bdL b A s) :
  ∃ q:Int,ui p (tI p s (bT p n)) (qG p (bT p n)) q∧q.natAbs<=(2*A*n+b)*n*48:=by
 have hb:=uJ hl h0 (p:=p)
 have hB:bdL n 2 (qG p (bT p n)):=by
  have:=uI (n:=p.length) (z:=2) hb;simpa [qG] using this
 have hA:bdL (b*n) (2*A*n+b) (tI p s (bT p n)):=by
  have b1:=uK n hs;have b2:=uK b hb;rw [Zy n b] at b2;have:=CO (n:=p.length) (z:=2) (w:=1) b1 b2;unfold tI;refine IJ this ?_;have e1:(2:Int).natAbs=2:=rfl;have e2:(1:Int).natAbs=1:=rfl;rw [e1,e2,Xs,Xs,Nat.mul_assoc];exact Z7 _
 have lst:(bT p n).length=p.length:=uY hl
 have la:(tI p s (bT p n)).length=p.length:=lV fun t ht=>by
  simp only [Zt,Zb,or_false] at ht;rcases ht with rfl | rfl
  ·exact ls
  ·exact lst
 have lb:(qG p (bT p n)).length=p.length:=lV fun t ht=>by
  simp only [Zt,Zb,or_false] at ht;rw [ht];exact lst
 obtain ⟨x,hx,hx0⟩:=NQ hl h0 (p:=p)
 have c1:2*A*n+b<=12000012:=by
  have:2*A*n<=1200*10000:=Zs (by omega) h1;omega
 have c2:b*n<=120000:=Zs hb1 h1;have m1:(2*A*n+b)*n<=12000012*10000:=Zs c1 h1;have m2:n*(6*(2*A*n+b))<=10000*(6*12000012):=Zs h1 (Z4 _ c1)
 have m3:4*(6*(2*A*n+b))*n*(b*n)*(6*2)<=4*(6*12000012)*10000*120000*(6*2):=Z1 _ (Zs (Zs (Z4 _ (Z4 _ c1)) h1) c2)
 exact U9 hp (Yu hb0 h0) h0 hA hB la lb (Az (lZ (by decide) fun y hy=>(FL h0 hB y hy).1) fun y hy=>⟨by
   rw [hx] at hy;simp only [Zt,Xx] at hy;rcases hy with rfl | ⟨_,rfl⟩
   ·omega
   ·decide,(FL h0 hB y hy).1,(oJ (s:=qG p (bT p n)) (d:=1)).2 y hy⟩) (by rw [hx];exact Ku hl (by omega)) (by omega) (by omega) (by omega) (by omega) (by omega) (by omega)
theorem er6 {p r:List Int} {n:Nat} (hpc:pcB p=0) (hp:in6 p) (hl:0<p.length) (h0:0<n) (h1:n<=10000) (lr:r.length=p.length) (hr:∀ x∈r,x.natAbs<=9) :
  ∃ q:Int,wV p n r q∧q.natAbs<=(18*n+1)*n*48:=by
 have hb:=uJ hl h0 (p:=p);have lo:(ofQ r).length=p.length:=by simp [ofQ,lr]
 have ho:bdL 1 9 (ofQ r):=PX (b:=1) hr;obtain ⟨q,q1,q2⟩:=nr6 hp hl h0 h1 (b:=1) (A:=9) (by decide) (by decide) (by decide) lo ho;have q2:q.natAbs<=(18*n+1)*n*48:=q2;have m1:(18*n+1)*n<=180001*10000:=Zs (by omega) h1;have hq:q.natAbs<=86400480000:=by omega
 refine ⟨q,⟨hpc,by have:=hp.2.1;omega,hl,h0,h1,lr,Qf hr,rb h0 hb (by omega) (by omega),?_,?_,q1,by omega,by omega,?_,?_⟩,q2⟩
 ·exact rb (b:=1) (by omega) ho (by omega) (by omega)
 ·rw [tB hl h0];exact Ku hl (by simp)
 ·have h2:bdL n (q.natAbs*1) (jf p n q):=uI hb;exact rb h0 h2 (by omega) (by omega)
 ·exact rb h0 (G9 hl h0 hr) (by omega) (by omega)
theorem rc6 {p r:List Int} {lim:Nat} (hpc:pcB p=0) (hp:in6 p) (hl:0<p.length) (hlim:lim<=100) (lr:r.length=p.length) (hr:∀ x∈r,x.natAbs<=9) :
  ∃ (qf zf:Nat->Int) (ls:Nat->Nat->Bool),Pr p r lim qf zf ls:=by
 have H:∀ n,∃ w:Int × Int,1<=n->n<=lim->wV p n r w.1∧w.1.natAbs<=8644800∧wC p (nI p n w.1 (ofQ r)) w.2∧-1<=w.2∧w.2<=1:=by
  intro n;by_cases h:1<=n∧n<=lim
  ·obtain ⟨q,q1,q2⟩:=er6 (n:=n) hpc hp hl h.1 (by omega) lr hr;have hn:n<=100:=by omega
   have m1:(18*n+1)*n<=1801*100:=Zs (by omega) hn;have hq:q.natAbs<=8644800:=by omega
   obtain ⟨z,z1,z2,z3⟩:=sg6 hp h.1 (G9 (q:=q) hl h.1 hr) (by omega);exact ⟨(q,z),fun _ _=>⟨q1,hq,z1,z2,z3⟩⟩
  ·exact ⟨(0,0),fun h1 h2=>absurd ⟨h1,h2⟩ h⟩
 obtain ⟨f,hf⟩:=Classical.axiomOfChoice H
 have hbA:∀ n,1<=n->n<=lim->bdL n (8644800+900) (nA p n r (f n).1 (f n).2):=by
  intro n h1 h2;obtain ⟨_,hq,_,z1,z2⟩:=hf n h1 h2;have:=uI (n:=p.length) (z:=uN (f n).2) (G9 (q:=(f n).1) hl h1 hr);unfold nA Nt;refine IJ this ?_;refine Z3 (Z1 _ (Po z1 z2)) ?_;omega
 have H2:∀ w:Nat × Nat,∃ z:Int,1<=w.2->w.2<w.1->w.1<=lim->wC p (dfS p (nA p w.1 r (f w.1).1 (f w.1).2) (nA p w.2 r (f w.2).1 (f w.2).2)) z:=by
  rintro ⟨n,m⟩;by_cases h:1<=m∧m<n∧n<=lim
  ·obtain ⟨h1,h2,h3⟩:=h;have b1:=uK m (hbA n (by omega) h3);have b2:=uK n (hbA m h1 (by omega));rw [Zy m n] at b2;have b3:=CO (n:=p.length) (z:=1) (w:=-1) b1 b2;have e1:(8644800+900)*m<=(8644800+900)*100:=Z4 _ (by omega);have e2:(8644800+900)*n<=(8644800+900)*100:=Z4 _ (by omega)
   obtain ⟨z,z1,_⟩:=sg6 hp (Yu (by omega) (by omega)) b3 (by
    have a1:(1:Int).natAbs=1:=rfl;have a2:(-1:Int).natAbs=1:=rfl;rw [a1,a2];omega)
   exact ⟨z,fun _ _ _=>z1⟩
  ·exact ⟨0,fun h1 h2 h3=>absurd ⟨h1,h2,h3⟩ h⟩
 obtain ⟨g,hg⟩:=Classical.axiomOfChoice H2;refine ⟨fun n=>(f n).1,fun n=>(f n).2,fun n m=>decide (g (n,m)<0),⟨fun n h1 h2=>(hf n h1 h2).1,fun n h1 h2=>(hf n h1 h2).2.2,fun n h1 h2=>rb h1 (hbA n h1 h2) (by omega) (by omega),fun n m h1 h2 h3=>⟨g (n,m),hg (n,m) h1 h2 h3,rfl⟩⟩⟩
end Go.Vm
