/- Small combinations of logarithms are not near nought: the certificate. -/
import Derived.Test.YtaiahkcmdnaooaaGreatDoorQDcY
import Derived.Test.YtaiahkcmdnaooaaGreatDoorQT
import Derived.Test.YtaiahkcmdnaooaaGreatDoorQTmC
set_option linter.unusedVariables false
set_option linter.unusedSimpArgs false
namespace Go.Vm
open Go Go.Am Go.Big
def bZ:List Int->List Int->Int
 | a::r,b::t=>a*b+bZ r t
 | _,_=>0
def Ga (E:Int) (ws:Int):List Int->List Int->List Int->Bool
 | w::W,l::L,u::U=>decide (E*u=w+ws*l) && Ga E ws W L U
 | [],[],[]=>true
 | _,_,_=>false
def P7:List Int->Nat
 | []=>0
 | w::W=>w.natAbs+P7 W
theorem KC {E ws:Int}:∀ {w L u:List Int},Ga E ws w L u=true->∀ c:List Int,E*bZ c u=bZ c w+ws*bZ c L
 | [],[],[],_,c=>by cases c <;> simp [bZ]
 | w::W,l::L,u::U,h,[]=>by simp [bZ]
 | w::W,l::L,u::U,h,x::c=>by
  simp only [Ga,Z7,decide_eq_true_eq] at h;have ih:=KC h.2 c;simp only [bZ,We];rw [ih]
  have e1:E*(x*u)=x*w+ws*(x*l):=by
   have:E*(x*u)=x*(E*u):=by rw [W5]
   rw [this,h.1,We,W5 x ws l]
  rw [e1];omega
 | [],[],_::_,h,_=>by simp [Ga] at h
 | [],_::_,_,h,_=>by simp [Ga] at h
 | _::_,[],_,h,_=>by simp [Ga] at h
 | _::_,_::_,[],h,_=>by simp [Ga] at h
theorem Pb {B:Nat}:∀ (c w:List Int),(∀ x∈c,x.natAbs<=B)->(bZ c w).natAbs<=P7 w*B
 | [],w,_=>by simp [bZ]
 | x::c,[],_=>by simp [bZ]
 | x::c,w::W,h=>by
  have h1:=h x af;have ih:=Pb c W fun y hy=>h y (by simp [hy])
  have h2:(x*w).natAbs<=w.natAbs*B:=by
   rw [Zi,Zw];exact Z5 _ h1
  have h3:=Wl (x*w) (bZ c W);simp only [bZ,P7,Nat.add_mul];omega
structure tN where
 w:List Int
 s:Int
 u:List Int
def Ql (k E B G:Nat) (L:List Int) (r:tN):Bool:=Ga E r.s r.w L r.u && decide (P7 r.w*B+r.s.natAbs*G<E) && decide (r.u.length=k)
theorem row_zero {k E B G:Nat} {L:List Int} {r:tN} (h:Ql k E B G L r=true) {c:List Int} (hc:∀ x∈c,x.natAbs<=B) (hL:(bZ c L).natAbs<=G):bZ c r.u=0:=by
 simp only [Ql,Z7,decide_eq_true_eq] at h;have h1:=KC h.1.1 c;have h2:=Pb c r.w hc
 have h3:(r.s*bZ c L).natAbs<=r.s.natAbs*G:=by
  rw [Zi];exact Z5 _ hL
 have h4:=Wl (bZ c r.w) (r.s*bZ c L);rw [<- h1,Zi,Int.natAbs_natCast] at h4;have h5:E*(bZ c r.u).natAbs<E*1:=by rw [Yg];exact Zb (Z2 h4 (Nat.add_le_add h2 h3)) h.1.2
 have h6:=Xa h5;omega
def Jp (v:Int):List Int->List Int->List Int
 | x::a,y::b=>(v*x+y)::Jp v a b
 | _,_=>[]
def Ce (k:Nat):List Int->List (List Int)->List Int
 | v::V,u::U=>Jp v u (Ce k V U)
 | _,_=>List.replicate k 0
theorem Hm (v:Int):∀ (c a b:List Int),a.length=b.length->bZ c (Jp v a b)=v*bZ c a+bZ c b
 | [],a,b,_=>by simp [bZ]
 | x::c,[],[],_=>by simp [bZ,Jp]
 | x::c,y::a,z::b,h=>by
  simp only [Jp,bZ,Hm v c a b (by simpa using h),We];rw [W5 x v y];omega
 | x::c,[],_::_,h=>by simp at h
 | x::c,_::_,[],h=>by simp at h
theorem HP (v:Int):∀ (a b:List Int),a.length=b.length->(Jp v a b).length=a.length
 | [],[],_=>rfl
 | x::a,y::b,h=>by simp [Jp,HP v a b (by simpa using h)]
 | [],_::_,h=>by simp at h
 | _::_,[],h=>by simp at h
theorem HB {k:Nat}:∀ (V:List Int) (U:List (List Int)),(∀ u∈U,u.length=k)->(Ce k V U).length=k
 | [],_,_=>by simp [Ce]
 | _::_,[],_=>by simp [Ce]
 | v::V,u::U,h=>by
  have h1:=h u af;have ih:=HB V U fun y hy=>h y (by simp [hy])
  rw [Ce,HP v _ _ (by rw [h1,ih]),h1]
theorem EE:∀ (c:List Int) (k:Nat),bZ c (List.replicate k 0)=0
 | [],k=>by simp [bZ]
 | x::c,0=>by simp [bZ]
 | x::c,k+1=>by simp [List.replicate_succ,bZ,EE c k]
theorem Hl {k:Nat} {c:List Int}:∀ (V:List Int) (U:List (List Int)),(∀ u∈U,u.length=k)->(∀ u∈U,bZ c u=0)->bZ c (Ce k V U)=0
 | [],_,_,_=>by rw [Ce];exact EE c k;simp
 | _::_,[],_,_=>by rw [Ce];exact EE c k;simp
 | v::V,u::U,h,h0=>by
  have h1:=h u af;have hl:=HB V U fun y hy=>h y (by simp [hy])
  rw [Ce,Hm v _ _ _ (by rw [h1,hl]),h0 u af,Hl V U (fun y hy=>h y (by simp [hy])) fun y hy=>h0 y (by simp [hy])];simp
def Ck:Nat->List Int->Bool
 | 0,x::r=>decide (x=1) && r.all fun y=>decide (y=0)
 | i+1,x::r=>decide (x=0) && Ck i r
 | _,[]=>false
theorem KE:∀ (c r:List Int),(r.all fun y=>decide (y=0))=true->bZ c r=0
 | [],r,_=>by simp [bZ]
 | x::c,[],_=>by simp [bZ]
 | x::c,y::r,h=>by
  simp only [List.all_cons,Z7,decide_eq_true_eq] at h;simp [bZ,h.1,KE c r h.2]
theorem Hh:∀ (i:Nat) (c r:List Int),Ck i r=true->bZ c r=c.getD i 0
 | _,[],r,_=>by simp [bZ]
 | i,x::c,[],h=>by cases i <;> simp [Ck] at h
 | 0,x::c,y::r,h=>by
  simp only [Ck,Z7,decide_eq_true_eq] at h;simp [bZ,h.1,KE c r h.2]
 | i+1,x::c,y::r,h=>by
  simp only [Ck,Z7,decide_eq_true_eq] at h;simp [bZ,h.1,Hh i c r h.2]
def HE (k E B G:Nat) (L:List Int) (rs:List tN) (V:List (List Int)):Bool:=
 rs.all (Ql k E B G L) && (List.range k).all fun i=>Ck i (Ce k (V.getD i []) (rs.map tN.u))
theorem Mp {k E B G:Nat} {L:List Int} {rs:List tN} {V:List (List Int)} (h:HE k E B G L rs V=true) {c:List Int} (hk:c.length=k) (hc:∀ x∈c,x.natAbs<=B) (hL:(bZ c L).natAbs<=G):∀ x∈c,x=0:=by
 simp only [HE,Z7,Zx,Wh] at h;intro x hx;obtain ⟨i,hi,rfl⟩:=List.getElem_of_mem hx;have h1:=h.2 i aa;have h2:=Hh i c _ h1
 have hu:∀ u∈rs.map tN.u,u.length=k:=by
  intro u hu;obtain ⟨r,hr,rfl⟩:=Zc.1 hu;have:=h.1 r hr;simp only [Ql,Z7,decide_eq_true_eq] at this;exact this.2
 have hz:∀ u∈rs.map tN.u,bZ c u=0:=by
  intro u hu;obtain ⟨r,hr,rfl⟩:=Zc.1 hu;exact row_zero (h.1 r hr) hc hL
 rw [Hl _ _ hu hz] at h2;rw [Zy,List.getElem?_eq_getElem hi] at h2;simpa using h2.symm
def c6P:List Int:=[2,3,5,7,11,13]
def c6E:Nat:=49614784997166684354356440537718907724664518830926052597504563849643971255504954919833347734491512257382489393255698957922075077162815239663036099654758093
def ZR:tN:=⟨[-429684907064430635884713548526284398136750440240151633627270991646252110934279583518109208170890072173059957252012719268146472383,-574363685902068805515767317845714914837534458777698246546030963465399421722584750825841800946067324725919455794597202907650714121,239682664751044579988541147519446983012439651196620121180688085753545084198219673524259121840454877199861278833790608213415902674,490169592611154263938780316899978278808405480672551162133006080257504427486126943347802766926253129983746371607254066620887569298,71811715775640068681224631610670057458858997080415386752011858081716943546979212804136948205462437687236329264864522740212298311,0],103059907767718463631308043909722223789355679515715379399056304135065126571877681106872492632855700838224827057148240370083530499,[27850719270598031528536908140733767726118931125030666918173045185973172667860188885707249015707142008127010150542945896815030597,44142345662009950906473217222273266831075072962080801848929529359793809334236086475333529440262778693532659123357310119570130934,64667367537222437229042629185065593031871224642464366666187027301419473248433823599822660464071711192917462786579480814321303171,78186853827157949520348926870151630073461616463326005074218518844947088887169197112356103395848829463734133009661276810514943340,96347658846497915012712300521445224793371092227122571808163482414981061334202939766687213885286882331982494676527431449364289686,103059907767718463631308043909722223789355679515715379399056304135065126571877681106872492632855700838224827057148240370083530499]⟩
def ZQ:tN:=⟨[-43110747200229788296365260636693326005998588987096619954869089054940869338398094725802200010641296086196605105832980957245125655,162405213819669793962280190067435374586389715176527151916613855891737269200280303764552382736400233000768360548298555683139521758,404833116842662799679601649178355400660926903004233561661612971025013587777085795229643097745145208628735147328531801055314143179,111041075422621091632158397747438726108086130430760853307822806463253294952608654713106923376779599395037338621685641491793297240,751114691308491007748668853269695973420513785378074807391897306050369179397438954528492628305404969487940080008216657151865963332,0],439335950650499223824285612195393470246325022551191878410003311583587261215293995436663577376424099141531452560034943295952926440,[118725336477362934197880093343646014501343934845599469041083727014247031851791170553859127674418803453469127786092422160298088845,188175206202121859889432882816363887782346661714572063010637704676107062674493836631592005509899148225876310193399916097614344766,275671694341744385276577596747505913130930191927564112532120860072746952504310540494146625463073726744185906700462890412841271983,333304157732670041939306775454492193056446676199211536601177646460426738001468515014602863833869554283420903035275514456363706920,410722182943141407003769412369889904314694067485291001688614574091306745899476297183642619558161403275889246772917969773153848764,439335950650499223824285612195393470246325022551191878410003311583587261215293995436663577376424099141531452560034943295952926440]⟩
def ZP:tN:=⟨[423300544883357628169939524369468130442632079304979463949839628809721770303266461002846953028568361004868161540605129199396988962,-285123376751573462547670869250854560875090665683045015576398439095041582316184627785715828691702533464772489911179761267994590743,96947262066998588060986165203869233724823904920882500261188216696259165091494962847118660572430053281916990492980910825907836463,465643235004406685744544157633672071145277353553705377795796544347470844368856705226921829685962331202833753120034719663594118792,497357904516595607875998002059903885126785617447941270967021510161371546662432400040919114810727834793445778668773252721855647984,0],-180283652357060891963341734855303342895290830340246672266453871380632466435841586997398361697779374621896239371486683254178315764,[-48719521486388647994543071022983664752401953327698105429919615640854155290405068663804326691156283768130439738516717942600735574,-77218614609004651574428397304640677475996238897591260101130280444561846829769936569179371527586743861652772671057466205927854567,-113123225708714309354486620684927528170189017992668492738825882325229155057119939468164799752889146239786133172214038272490076017,-136772988445104371502629183947232462461065058051394742325590385908796487752309402397614343938812666666327695704137115209330480400,-168541853074892062875215990314750670728957636274604138008149065504506005571792549457672536946639636538865197458036840004684847236,-180283652357060891963341734855303342895290830340246672266453871380632466435841586997398361697779374621896239371486683254178315764]⟩
def ZO:tN:=⟨[159531764860778240831070386638950943452271761373434132084660956390820782904556733889389035868101853798907780845890566495180410339,-180032089505609209860233013367430784981760269288235028150272233242192422337617266459588273668717274570307548125948198250997292668,722405188777314026290228423729562622485744858435224802669416577753872228546103611468200035730938439621290214051003514987402640739,36000990527446309198347138185176770004549727162813405250184033037069968420659466845714636018818258590705256959225987168237527327,-513530963278479332513950828304824217548759301985671116846623159423663302335838371957263992970359945416442876540905495299997168979,0],255319271753262736240596140445048610660147532638867101688231609388924934549470991616555890522609786307994265712474064939372719006,[68997008788329030471651890466501605922759514891055642670684877087150164920370355947256414807736361809274411982318831819290316655,109357671591429570348446990333056286674650708604085047802155266884788489640797707697129937207705205929608965377164939790970996338,160206093168811422882351307075073345108793236944860528664460807374981125107010762526335062166141314315540499983610962933037671305,193699092229167270957497322859449866983386428115660752004044982491020316707187384266855752641467878819592456428991277772969768015,238690433793740921787683432401020148873693897194675168197188040134700797741225079582870389221277519794301971401466914493602027743,255319271753262736240596140445048610660147532638867101688231609388924934549470991616555890522609786307994265712474064939372719006]⟩
def ZN:tN:=⟨[-115699792562142438908206584352388253201925118670869643467677761121403901270826956076992048101143363449386912529145981349866502063,317427049764918117651459939430012773888396636265162816931813707329297297607212420494030633298213235565148281059707087047705680636,193434686445219496297236067914981533486168164295004570116807459813592421290831775811834655808253617850393225983319103489553872396,202837281079699213149765844575736259095315944060610771048246603594817678831923528311990994562585284019313909165919139027091326019,712396033821932351616868822462490381124122861434848986507322852529824321381818847992924250352439865772839016498853430672476577578,0],-559799349675958243149023041528111243920862410527801771881216815243587809595474924713623051631744314549438039640085538859388599396,[-151279143106044767089815513101441711517432663573468295745730103529184394594309578953149631219854080461231028370958235909546346603,-239771768964310368334540681067837006910701812640817258499972247514604514083585800476914948116392521374550461284763470981445210872,-351259292548411181537919193080846329969869311789965849363701081249593626040362629485015730992591625205480064399957712684340931440,-424694247003411444855146851477514715910429813795428980139419467749957251963884059480211277433950262200983846038963016183720045833,-523339850901407777015626749765207552897634145012805488315350129174836181746914342580738630090328050384309992801104889853869345490,-559799349675958243149023041528111243920862410527801771881216815243587809595474924713623051631744314549438039640085538859388599396]⟩
def ZM:tN:=⟨[5055866734460492751768211705120840041899237975357819210693409331339698965515480147528501481115754752617839044324011729516849701,486787547201009472714225339921947424312773995304900935777110745518896330428818341655420145150079917148786138178721516918708501081,-371534174410100712058891411833791071451799635399645312991342278868016149935319291647640646606371079436995270097792633094699176481,393721980329173825888087799515891191599337752448102016205280277872930140505877298858326928680171223865191903719984334491924693395,-63084654763227656672328807791060097510906557521183910417099407055995627556581145158467988204647214289892093141760285854902011444,0],190670751079263851920391443869175106364653954798408653798284743976804958109287908311498838592158724017167872232008297034176454231,[51526511874931147045440232338241213598995949992787563044839448908598157867674753125734229906134315822189450689289777891276847289,81667589114729220696364644972084636377741334870882808941607336583906478613318415308555618059845523855592319917464803454474367156,119640855553949931195359567588261908639127024902064358053829611605493236398712317439776796348104234246731657126690167143378539840,144653206728547542795275835596324454222228057800040851205468589670529400521174841730692856721557840943082114239897188601911150441,178252444378226976301420740075708316236838087700956238536026635050832749472600304434409083164366447419131491572849036279690272963,190670751079263851920391443869175106364653954798408653798284743976804958109287908311498838592158724017167872232008297034176454231]⟩
def c6R:List tN:=[ZR,ZQ,ZP,ZO,ZN,ZM]
def c6V:List (List Int):=[[-46477260228354403041493751,-2505632726243893919427248,58003229516542057431797140,15057295410276108388899585,-22306353907238312513566508,85438611908062355094321],[-25758522260144387158066355,6468867710079767890381561,-25120626473553828029748921,21017786884855784315416113,32137420031589499465207364,41475093799394621888898217],[-459074409943010318492609,10822464117439059568603833,-9756398330483923621702778,50098038355954498359498971,30562394815147993944910824,-11268065159585924320632353],[30420219925102840764344579,-14537544594484470209685826,25199522547478204684291748,18922988829788052015374945,13087795528133714359917485,53967158135058905287670651],[-2738906948132587203398157,33980339139849080327203319,12766138930794734537985420,-30249525070648516782987174,1661304814314177677032971,-19361663294179703925672167],[3362896834617060908787601,-29622662201364248515898145,-29845618333873557643178232,-30583155841379738043590236,-38396299710588350570382390,-33558954129317454890197270]]
def lgI (n:Nat) (p:Int):Int:=(lg p n:Int)
theorem zb:HE 6 c6E 73786976294838206464 73786976294838206464 (c6P.map (lgI 512)) c6R c6V=true:=aM
def jv (h:Int->Int):List (Int × Int)->Int
 | []=>0
 | t::ts=>t.2*h t.1+jv h ts
def du:List (Int × Int)->Nat
 | []=>0
 | t::ts=>t.2.natAbs+du ts
def cfT:List (Int × Int)->Int->Int
 | [],_=>0
 | t::ts,c=>(if t.1=c then t.2 else 0)+cfT ts c
theorem oF (n:Nat):∀ ts:List (Int × Int),(aQ n ts (0,0)).1<=jv (lgI n) ts∧jv (lgI n) ts<=(aQ n ts (0,0)).2∧(aQ n ts (0,0)).2-(aQ n ts (0,0)).1<=du ts
 | []=>by simp [aQ,jv,du]
 | t::ts=>by
  obtain ⟨h1,h2,h3⟩:=oF n ts;obtain ⟨x,hx⟩:∃ x:Int,x=lg t.1 n:=⟨_,rfl⟩;obtain ⟨y,hy⟩:∃ y:Int,y=if t.1=2 then x else x+1:=⟨_,rfl⟩
  have hxy:y=x∨y=x+1:=by rw [hy];split <;> simp
  have e:aQ n (t::ts) (0,0)=aQ n ts (if t.2<0 then (0+y*t.2,0+x*t.2) else (0+x*t.2,0+y*t.2)):=by
   rw [hy,hx];rfl
  have e2:jv (lgI n) (t::ts)=t.2*x+jv (lgI n) ts:=by rw [hx];rfl
  rw [e,e2,qz ts];simp only [du,Xh]
  have m1:y*t.2=x*t.2∨y*t.2=x*t.2+t.2:=by
   rcases hxy with h | h
   ·left;rw [h]
   ·right;rw [h,Xv,Int.one_mul]
  rw [Yz t.2 x];by_cases hn:t.2<0
  ·rw [if_pos hn];simp only;omega
  ·rw [if_neg hn];simp only;omega
theorem Hk (f g:Int->Int):∀ (P L:List Int),bZ (P.map fun c=>f c+g c) L=bZ (P.map f) L+bZ (P.map g) L
 | [],L=>by simp [bZ]
 | p::P,[]=>by simp [bZ]
 | p::P,l::L=>by
  simp only [Zz,bZ,Hk f g P L,Xv];omega
theorem Hj (h:Int->Int) (a z:Int):∀ P:List Int,a ∉ P->bZ (P.map fun c=>if a=c then z else 0) (P.map h)=0
 | [],_=>by simp [bZ]
 | p::P,hn=>by
  simp only [Zt,not_or] at hn;simp [bZ,hn.1,Hj h a z P hn.2]
theorem KD (h:Int->Int) (a z:Int):∀ P:List Int,P.Nodup->a∈P->bZ (P.map fun c=>if a=c then z else 0) (P.map h)=z*h a
 | [],_,hm=>by simp at hm
 | p::P,hn,hm=>by
  rw [W8] at hn;by_cases e:a=p
  ·subst e;simp [bZ,Hj h a z P hn.1]
  ·have:a∈P:=by simpa [e] using hm
   simp [bZ,e,KD h a z P hn.2 this]
theorem FB (h:Int->Int) {P:List Int} (hP:P.Nodup):∀ ts:List (Int × Int),(∀ t∈ts,t.1∈P)->jv h ts=bZ (P.map (cfT ts)) (P.map h)
 | [],_=>by
  have:∀ P:List Int,bZ (P.map (cfT [])) (P.map h)=0:=by
   intro P
   induction P with
   | nil=>rfl
   | cons p P ih=>rw [Zz,Zz,bZ,ih];simp [cfT]
  rw [this];rfl
 | t::ts,hm=>by
  rw [jv,FB h hP ts fun u hu=>hm u (by simp [hu])];have:cfT (t::ts)=fun c=>(if t.1=c then t.2 else 0)+cfT ts c:=by funext c;rfl
  rw [this,Hk,KD h t.1 t.2 P hP (hm t af)]
theorem Pz (c:Int):∀ ts:List (Int × Int),(cfT ts c).natAbs<=du ts
 | []=>by simp [cfT]
 | t::ts=>by
  have:=Pz c ts;simp only [cfT,du];split <;> omega
theorem y9 {c:Int}:∀ ts:List (Int × Int),c ∉ ts.map Prod.fst->cfT ts c=0
 | [],_=>rfl
 | t::ts,h=>by
  simp only [Zz,Zt,not_or] at h;rw [cfT,if_neg (fun e=>h.1 e.symm),y9 ts h.2];rfl
theorem wY {P:List Int} {k E B G n:Nat} {rs:List tN} {V:List (List Int)} (hc:HE k E B G (P.map (lgI n)) rs V=true) (hk:P.length=k) (hP:P.Nodup) {ts:List (Int × Int)} (hm:∀ t∈ts,t.1∈P) (hB:du ts<=B) (hG:(jv (lgI n) ts).natAbs<=G):∀ c∈P,cfT ts c=0:=by
 intro c hcP
 have h1:=Mp hc (c:=P.map (cfT ts)) (by simpa using hk) (by
  intro x hx;obtain ⟨d,_,rfl⟩:=Zc.1 hx;exact Z2 (Pz d ts) hB) (by rw [<- FB (lgI n) hP ts hm];exact hG)
 exact h1 _ (List.mem_map_of_mem hcP)
theorem JL {P:List Int} {k E B G n:Nat} {rs:List tN} {V:List (List Int)} (hc:HE k E B G (P.map (lgI n)) rs V=true) (hk:P.length=k) (hP:P.Nodup) {ts:List (Int × Int)} (hm:∀ t∈ts,t.1∈P) (hn:(ts.map Prod.fst).Nodup) (h0:∀ t∈ts,t.2≠0) (hB:du ts<=B) (hG:du ts<=G) (hne:ts≠[]) :
  0<=(aQ n ts (0,0)).1∨(aQ n ts (0,0)).2<=0:=by
 obtain ⟨g1,g2,g3⟩:=oF n ts;by_cases hd:0<=(aQ n ts (0,0)).1∨(aQ n ts (0,0)).2<=0
 ·exact hd
 ·exfalso;have hz:=wY hc hk hP hm hB aa;cases ts with
  | nil=>exact hne rfl
  | cons t ts=>
   have h1:=hz t.1 (hm t af);simp only [Zz,W8] at hn;rw [cfT,if_pos rfl,y9 ts hn.1] at h1;exact h0 t af aa
theorem Cu {ts:List (Int × Int)}:∀ (r n j:Nat),j<r->(0<=(aQ (n*2 ^ j) ts (0,0)).1∨(aQ (n*2 ^ j) ts (0,0)).2<=0)->∃ s,wK ts r n=some s∧(s=1∨s = -1)
 | 0,n,j,hj,_=>by omega
 | r+1,n,j,hj,h=>by
  unfold wK;by_cases h1:0<=(aQ n ts (0,0)).1
  ·exact ⟨1,by rw [if_pos h1],Or.inl rfl⟩
  ·by_cases h2:(aQ n ts (0,0)).2<=0
   ·exact ⟨-1,by rw [if_neg h1,if_pos h2],Or.inr rfl⟩
   ·rw [if_neg h1,if_neg h2];cases j with
    | zero=>simp at h;omega
    | succ j=>
     refine Cu r (n*2) j aa ?_;have:n*2*2 ^ j=n*2 ^ (j+1):=by rw [Nat.pow_succ,Nat.mul_assoc,Zw 2]
     rw [this];exact h
theorem Iz (ts:List (Int × Int)) : -1<=kQ ts∧kQ ts<=1:=by
 unfold kQ;split
 ·decide
 ·split
  ·decide
  ·split <;> decide
theorem Lm {ts:List (Int × Int)} (h:ts≠[]->∃ s,wK ts 6 64=some s∧(s=1∨s = -1)):∃ z,uT ts=some z∧-1<=z∧z<=1:=by
 cases ts with
 | nil=>exact ⟨0,rfl,ae,ae⟩
 | cons t ts=>
  unfold uT;simp only;by_cases hq:kQ (t::ts)≠0
  ·rw [if_pos hq];exact ⟨_,rfl,Iz _⟩
  ·rw [if_neg hq];obtain ⟨s,hs,hv⟩:=h af;refine ⟨s,hs,?_⟩;omega
def lgC (n:Nat) (p:Int):Bool:=(Es p.toNat n).isSome && decide (2 ^ n<=lg p n) && decide (lg p n+1<=4*2 ^ n)
theorem Vu:∀ p∈c6P,∀ i∈List.range 6,lgC (64*2 ^ i) p=true:=aM
theorem S7 {x k:Nat} (hk:1<=k) (h:x<2 ^ (3*k)):ndg x<=k:=by
 refine bv (Z0 h ?_) hk;rw [Nat.pow_mul];exact Nat.pow_le_pow_left ae k
theorem N9 {x m k:Nat} (hk:1<=k) (hm:m+2<=3*k) (h:x+1<=4*2 ^ m):ndg x<=k:=by
 refine S7 hk (Z0 (Z0 (Nat.lt_succ_self x) h) ?_);have e:4*2 ^ m=2 ^ (m+2):=by rw [Yv,Zw]
 rw [e];exact Z1 ae hm
theorem PH:∀ p∈c6P,2<=p∧p<128:=ae
theorem KQ:c6P.Nodup:=ae
theorem PI {p:Int} (hp:p∈c6P) {i:Nat} (hi:i<6):(Es p.toNat (64*2 ^ i)).isSome=true∧2 ^ (64*2 ^ i)<=lg p (64*2 ^ i)∧lg p (64*2 ^ i)+1<=4*2 ^ (64*2 ^ i):=by
 have:=Vu p hp i (Wh.2 hi);simp only [lgC,Z7,decide_eq_true_eq] at this;exact ⟨this.1.1,this.1.2,this.2⟩
theorem EQ {ts:List (Int × Int)} (h:∀ t∈ts,t.1∈c6P):xK ts:=by
 intro i hi t ht;obtain ⟨h1,h2,h3⟩:=PI (h t ht) hi;obtain ⟨p1,p2⟩:=PH _ (h t ht);refine ⟨p1,aa,h1,?_⟩;obtain ⟨k,hk⟩:∃ k,k=1500:=⟨_,rfl⟩;rw [<- hk];refine N9 aa ?_ h3;have:2 ^ i<=2 ^ 5:=Z1 ae aa;omega
theorem uO {C:Nat}:∀ ts:List (Int × Int),(∀ t∈ts,t.2.natAbs<=C)->du ts<=ts.length*C
 | [],_=>by simp [du]
 | t::ts,h=>by
  have h1:=h t af;have h2:=uO ts fun u hu=>h u (by simp [hu])
  simp only [du,List.length_cons,Xn];omega
theorem TV {ts:List (Int × Int)} (hm:∀ t∈ts,t.1∈c6P) (hn:(ts.map Prod.fst).Nodup) (h0:∀ t∈ts,t.2≠0) (hl:ts.length<=6) (hb:∀ t∈ts,t.2.natAbs<9223372036854775808):∃ z,uT ts=some z∧-1<=z∧z<=1:=by
 refine Lm fun hne=>Cu 6 64 3 ae ?_
 have h1:=uO (C:=9223372036854775808) ts fun t ht=>V4 (hb t ht)
 have h2:ts.length*9223372036854775808<=6*9223372036854775808:=Z3 _ hl;have hb1:du ts<=73786976294838206464:=aa;have h3:=JL (n:=512) zb rfl KQ hm hn h0 hb1 hb1 hne;have e:64*2 ^ 3=512:=ae;rw [e];exact h3
def rp (b:Nat) (x:Q) (a:Int):Prop:=okQ x∧x.1*(b:Int)=a*(x.2:Int)
theorem Kf (n:Int) {d:Nat} (hd:0<d):(jL n d).1*(d:Int)=n*((jL n d).2:Int)∧0<(jL n d).2:=by
 obtain ⟨g,hg⟩:∃ g,g=Nat.gcd n.natAbs d:=⟨_,rfl⟩;have hg0:0<g:=by rw [hg];exact W0 _ hd
 obtain ⟨d',hd'⟩:g ∣ d:=by rw [hg];exact Nat.gcd_dvd_right ..
 obtain ⟨n',hn'⟩:(g:Int) ∣ n:=PC (by rw [hg];exact Wb ..)
 have e1:(jL n d).1=n':=by
  simp only [jL,<- hg];rw [hn'];exact Int.mul_ediv_cancel_left _ aa
 have e2:(jL n d).2=d':=by
  simp only [jL,<- hg];rw [hd'];exact Yl _ hg0
 rw [e1,e2];refine ⟨?_,?_⟩
 ·rw [hn',hd',Int.natCast_mul,<- Int.mul_assoc,Yz n' g]
 ·rcases Zf d' with h | h
  ·rw [h] at hd';omega
  ·exact h
theorem Ng {n a:Int} {d b:Nat} (hd:0<d) (h:n*(b:Int)=a*(d:Int)):rp b (jL n d) a:=by
 obtain ⟨h1,h2⟩:=Kf n hd;refine ⟨vp n hd,?_⟩;have hd':(d:Int)≠0:=aa;refine Yd hd' ?_
 calc (jL n d).1*(b:Int)*(d:Int)=(jL n d).1*(d:Int)*(b:Int):=by rw [Za]
  _=n*((jL n d).2:Int)*(b:Int):=by rw [h1]
  _=n*(b:Int)*((jL n d).2:Int):=by rw [Za]
  _=a*((jL n d).2:Int)*(d:Int):=by rw [h,Za]
theorem Ip {b:Nat} {x y:Q} {a c:Int} (hx:rp b x a) (hy:rp b y c):rp b (oz x y) (a+c):=by
 have p1:=hx.1.1;have p2:=hy.1.1;refine Ng (Yp p1 p2) ?_;rw [Xv,Xv,Int.natCast_mul]
 have e1:x.1*(y.2:Int)*(b:Int)=a*((x.2:Int)*(y.2:Int)):=by
  rw [Za,hx.2,Int.mul_assoc]
 have e2:y.1*(x.2:Int)*(b:Int)=c*((x.2:Int)*(y.2:Int)):=by
  rw [Za,hy.2,Int.mul_assoc,Yz (y.2:Int)]
 rw [e1,e2]
theorem D2 {b:Nat} {x:Q} {a:Int} (z:Int) (hx:rp b x a):rp b (lW x (z,1)) (z*a):=by
 have p1:=hx.1.1;refine Ng (by simpa using p1) ?_;simp only [Yg];rw [Za,hx.2,Int.mul_assoc,Yz (x.2:Int),<- Int.mul_assoc,Yz a]
theorem F9 {b:Nat} {x:Q} {a:Int} (m:Nat) (hx:rp b x a):rp (b*m) x (a*m):=
 ⟨hx.1,by rw [Int.natCast_mul,<- Int.mul_assoc,hx.2,Za]⟩
theorem yG (b:Nat):rp b (0,1) 0:=⟨⟨ae,ae⟩,af⟩
theorem wN {b:Nat} {x:Q} {a:Int} (h:rp b x a):x.2 ∣ b:=by
 have h1:x.1.natAbs*b=a.natAbs*x.2:=by
  have:=congrArg Int.natAbs h.2;simpa [Zi] using this
 have h2:x.2 ∣ x.1.natAbs*b:=⟨a.natAbs,by rw [h1,Zw]⟩;exact Nat.Coprime.dvd_of_dvd_mul_left (Nat.Coprime.symm h.1.2) h2
theorem Nf {b:Nat} {x:Q} {a:Int} (hb:0<b) (h:rp b x a):x.1.natAbs*(b / x.2)=a.natAbs:=by
 obtain ⟨m,hm⟩:=wN h
 have h1:x.1.natAbs*b=a.natAbs*x.2:=by
  have:=congrArg Int.natAbs h.2;simpa [Zi] using this
 have p:=h.1.1;rw [hm,Yl _ p];refine Nat.eq_of_mul_eq_mul_right p ?_;rw [<- h1,hm,Nat.mul_assoc,Zw m]
theorem Nh {b:Nat} {x:Q} {a:Int} (hb:0<b) (h:rp b x a):x.1.natAbs<=a.natAbs∧x.2<=b:=by
 have h1:=Nf hb h;have h2:=X4 hb (wN h);have h3:1<=b / x.2:=(Wp h.1.1).2 aa;refine ⟨?_,h2⟩;rw [<- h1];exact Ze _ h3
def bdL (b B:Nat) (s:List Q):Prop:=∀ x∈s,∃ a:Int,rp b x a∧a.natAbs<=B
theorem wn {b B C:Nat} {s:List Q} (h:bdL b B s) (hc:B<=C):bdL b C s:=fun x hx=>by
 obtain ⟨a,h1,h2⟩:=h x hx;exact ⟨a,h1,aa⟩
theorem wm {b B:Nat} {s:List Q} (m:Nat) (h:bdL b B s):bdL (b*m) (B*m) s:=fun x hx=>by
 obtain ⟨a,h1,h2⟩:=h x hx;refine ⟨a*m,F9 m h1,?_⟩;rw [Zi,Int.natAbs_natCast];exact Z3 _ h2
theorem zd {b A C:Nat} (z:Int):∀ {o s:List Q},bdL b A o->bdL b C s->bdL b (A+z.natAbs*C) (kL (z,1) o s)
 | x::o,y::s,ho,hs=>by
  obtain ⟨a,a1,a2⟩:=ho x af;obtain ⟨c,c1,c2⟩:=hs y af;have ih:=zd z (o:=o) (s:=s) (fun u hu=>ho u (by simp [hu])) fun u hu=>hs u (by simp [hu])
  intro u hu;simp only [kL,Zt] at hu;rcases hu with rfl | hu
  ·refine ⟨a+z*c,Ip a1 (D2 z c1),?_⟩;have h1:=Wl a (z*c);rw [Zi] at h1;have h2:=Z5 z.natAbs c2;omega
  ·exact ih u hu
 | [],s,_,_=>by intro u hu;simp [kL] at hu
 | _::_,[],_,_=>by intro u hu;simp [kL] at hu
theorem Bq (b n:Nat):bdL b 0 (List.replicate n (0,1)):=fun x hx=>by
 rw [X6] at hx;rw [hx.2];exact ⟨0,yG b,af⟩
theorem wj {b B:Nat} {s:List Q} {n:Nat} {z:Int} (h:bdL b B s):bdL b (z.natAbs*B) (j4 n [s] [(z,1)]):=by
 have:=zd z (Bq b n) h;simpa [j4,oY] using this
theorem EW {b A B:Nat} {s t:List Q} {n:Nat} {z w:Int} (h:bdL b A s) (h':bdL b B t):bdL b (z.natAbs*A+w.natAbs*B) (j4 n [s,t] [(z,1),(w,1)]):=by
 have:=zd w (zd z (Bq b n) h) h';simpa [j4,oY] using this
theorem Sv {r:List Int} {b B:Nat} (hr:∀ x∈r,x.natAbs<=B):bdL b (B*b) (ofQ r):=fun x hx=>by
 obtain ⟨y,hy,rfl⟩:=Zc.1 hx;refine ⟨y*b,⟨⟨Vz,af⟩,af⟩,?_⟩;rw [Zi,Int.natAbs_natCast];exact Z3 _ (hr y hy)
theorem Br {b B:Nat} {s:List Q} (hb:0<b) (h:bdL b B s):∀ x∈s,okQ x:=fun x hx=>by
 obtain ⟨a,h1,h2⟩:=h x hx;exact h1.1
theorem sT {b B:Nat} {s:List Q} (hb:0<b) (h:bdL b B s) (h1:b<1000000000000000000000000000000) (h2:B<1000000000000000000000000000000):okS s:=fun x hx=>by
 obtain ⟨a,r1,r2⟩:=h x hx;obtain ⟨l1,l2⟩:=Nh hb r1;exact ⟨r1.1,bv (d:=30) (by show _<10 ^ 30;omega) ae,bv (d:=30) (by show _<10 ^ 30;omega) ae⟩
theorem KH {b:Nat}:∀ {s:List Q} {d:Nat},d ∣ b->(∀ x∈s,x.2 ∣ b)->fC d s ∣ b
 | [],d,h,_=>h
 | x::s,d,h,hs=>KH (s:=s) (Nat.lcm_dvd h (hs x af)) fun y hy=>hs y (by simp [hy])
theorem EZ {b B:Nat} {s:List Q} (h:bdL b B s):fC 1 s ∣ b:=KH (Nat.one_dvd b) fun x hx=>by
 obtain ⟨a,r1,r2⟩:=h x hx;exact wN r1
theorem uN {b B d:Nat} (hb:0<b) (hd:d ∣ b):∀ {p:List Int} {s:List Q},bdL b B s->∀ t∈cV d p s,t.2.natAbs<=B
 | [],s,_,t,ht=>by simp [cV] at ht
 | p::ps,[],_,t,ht=>by simp [cV] at ht
 | p::ps,x::s,h,t,ht=>by
  obtain ⟨a,r1,r2⟩:=h x af;have ih:=uN hb hd (p:=ps) (s:=s) fun y hy=>h y (by simp [hy])
  simp only [cV] at ht
  have hx:(x.1*((d / x.2:Nat):Int)).natAbs<=B:=by
   rw [Zi,Int.natAbs_natCast];have h1:=Nf hb r1;have h2:d / x.2<=b / x.2:=Nat.div_le_div_right (X4 hb hd);have h3:=Z5 x.1.natAbs h2;omega
  split at ht
  ·exact ih t ht
  ·simp only [Zt] at ht;rcases ht with rfl | ht
   ·exact hx
   ·exact ih t ht
theorem sY {d:Nat}:∀ {p:List Int} {s:List Q},∀ t∈cV d p s,t.1∈p
 | [],s,t,ht=>by simp [cV] at ht
 | p::ps,[],t,ht=>by simp [cV] at ht
 | p::ps,x::s,t,ht=>by
  have ih:=sY (d:=d) (p:=ps) (s:=s);simp only [cV] at ht;split at ht
  ·exact Wi _ (ih t ht)
  ·simp only [Zt] at ht;rcases ht with rfl | ht
   ·simp
   ·exact Wi _ (ih t ht)
theorem zx {d:Nat}:∀ {p:List Int} {s:List Q},p.Nodup->((cV d p s).map Prod.fst).Nodup
 | [],s,_=>by simp [cV]
 | p::ps,[],_=>by simp [cV]
 | p::ps,x::s,h=>by
  rw [W8] at h;have ih:=zx (d:=d) (p:=ps) (s:=s) h.2;simp only [cV];split
  ·exact ih
  ·simp only [Zz,W8];refine ⟨fun hm=>?_,ih⟩;obtain ⟨t,ht,e⟩:=Zc.1 hm;exact h.1 (by rw [<- e];exact sY t ht)
theorem zy {d:Nat} (hd:0<d):∀ {p:List Int} {s:List Q},(∀ x∈s,0<x.2∧x.2 ∣ d)->∀ t∈cV d p s,t.2≠0
 | [],s,_,t,ht=>by simp [cV] at ht
 | p::ps,[],_,t,ht=>by simp [cV] at ht
 | p::ps,x::s,h,t,ht=>by
  have ih:=zy hd (p:=ps) (s:=s) fun y hy=>h y (by simp [hy])
  obtain ⟨h1,h2⟩:=h x af;have h3:0<d / x.2:=V5 (X4 hd h2) h1;simp only [cV] at ht;split at ht
  ·exact ih t ht
  ·rename_i hx;simp only [Zt] at ht;rcases ht with rfl | ht
   ·exact Wt hx aa
   ·exact ih t ht
def in6 (p:List Int):Prop:=p.Nodup∧p.length<=6∧∀ x∈p,x∈c6P
theorem rK {p:List Int} {s:List Q} (hp:in6 p):∀ t∈tq p s,t.1∈c6P:=fun t ht=>hp.2.2 _ (sY t ht)
theorem Du {p:List Int} {s:List Q} {b B:Nat} (hp:in6 p) (hb:0<b) (h:bdL b B s) (hB:B<9223372036854775808):IE (tq p s):=by
 refine ⟨?_,fun t ht=>?_⟩
 ·have:=nT (d:=fC 1 s) p s;have:=hp.2.1;unfold tq;omega
 ·obtain ⟨h1,h2⟩:=PH _ (rK hp t ht);exact ⟨h1,h2,Zb (uN hb (EZ h) h t ht) hB⟩
theorem sg6 {p:List Int} {s:List Q} {b B:Nat} (hp:in6 p) (hb:0<b) (h:bdL b B s) (hB:B<9223372036854775808):∃ z,rT p s z∧-1<=z∧z<=1:=by
 have h1:=Du hp hb h hB;have hd:∀ x∈s,0<x.2:=fun x hx=>(Br hb h x hx).1
 have hl:(tq p s).length<=6:=by
  have:=nT (d:=fC 1 s) p s;have:=hp.2.1;unfold tq;omega
 obtain ⟨z,hz,z1⟩:=TV (rK hp) (zx hp.1) (zy (mh ae hd) fun x hx=>⟨hd x hx,(oG (s:=s) (d:=1)).2 x hx⟩) hl fun t ht=>(h1.2 t ht).2.2
 exact ⟨z,⟨Ec h1,EQ (rK hp),hz⟩,z1⟩
theorem uw {most:Int}:∀ (ts:List (Int × Int)) (lo hi C:Int) (a:Int × Int),(∀ t∈ts,2<=t.1∧t.1<128)->lo<=hi->-C<=lo->hi<=C->fx most ts (lo,hi)=some a ->
  a.1<=a.2∧-(C+(du ts:Int)*469762049)<=a.1∧a.2<=C+(du ts:Int)*469762049
 | [],lo,hi,C,a,hl,h1,h2,h3,ha=>by
  simp only [fx,Z9] at ha;subst ha;simp [du];omega
 | t::ts,lo,hi,C,a,hl,h1,h2,h3,ha=>by
  obtain ⟨l1,l2⟩:=hl t af;simp only [fx] at ha;split at ha
  ·cases ha
  ·rename_i hc;split at ha
   ·cases ha
   ·rename_i f hf;have hflt:=CY (p:=t.1.toNat) aa aa hf;obtain ⟨b,hb'⟩:∃ b:Int,b=(if t.1=2 then (f:Int) else f+1):=⟨_,rfl⟩;rw [<- hb'] at ha;have hbb:(f:Int)<=b∧b<=f+1:=by subst hb';split <;> omega
    obtain ⟨m,hm⟩:∃ m:Int,m=(t.2.natAbs:Int):=⟨_,rfl⟩
    have bd:∀ z:Int,0<=z->z<=469762049->-(m*469762049)<=t.2*z∧t.2*z<=m*469762049:=by
     intro z hz0 hz;have a1:t.2*z<=m*z:=Zs aa hz0;have a2:(-m)*z<=t.2*z:=Zs aa hz0;have a3:m*z<=m*469762049:=Yu hz aa;rw [Wx] at a2;omega
    have bx:=bd f aa aa;have by_:=bd b aa aa;have:=uw ts _ _ (C+m*469762049) a (fun t ht=>hl t (by simp [ht])) aa aa aa ha
    have e:((du (t::ts):Nat):Int)*469762049=m*469762049+(du ts:Int)*469762049:=by
     rw [du,Int.natCast_add,Xv,<- hm]
    rw [e];omega
theorem EF {a b:Int} {M:Nat} (hb:0<b) (h:a.natAbs<=M*b.natAbs):(a / b).natAbs<=M:=by
 have e:((M*b.natAbs:Nat):Int)=(M:Int)*b:=by rw [Int.natCast_mul];congr 1;omega
 have h1:a<=(M:Int)*b:=aa;have h2:(-(M:Int))*b<=a:=by rw [Wx];omega
 have h3 : -(M:Int)<=a / b:=(Wv hb).2 h2;have h4:a / b<=(M:Int):=Int.le_of_lt_add_one ((Int.ediv_lt_iff_lt_mul hb).2 (by rw [Xv,Int.one_mul];omega));omega
theorem Gj {x y:Int × Int} {d g:Int} (h1:0<y.1) (h2:y.1<=y.2):Ae x y d g=if x.1*g / ((if x.1<0 then y.1 else y.2)*d)=x.2*g / ((if x.2<0 then y.2 else y.1)*d) then some (x.1*g / ((if x.1<0 then y.1 else y.2)*d)) else none:=by
 unfold Ae;have hn:¬ y.2<=0:=aa;simp only [hn,if_false];rw [if_neg aa]
theorem Rt:∀ p∈c6P,(match sI p.toNat with | some a=>decide (67108864<=a) | none=>true)=true:=aM
theorem Ap {most:Int}:∀ (ts:List (Int × Int)) (a0 a:Int × Int),(∀ t∈ts,t.1∈c6P∧0<t.2)->fx most ts a0=some a->a0.1+ts.length*67108864<=a.1
 | [],a0,a,_,h=>by
  simp only [fx,Z9] at h;subst h;simp
 | t::ts,a0,a,hl,ha=>by
  obtain ⟨l1,l2⟩:=hl t af;simp only [fx] at ha;split at ha
  ·cases ha
  ·split at ha
   ·cases ha
   ·rename_i f hf;have hc:=Rt _ l1;rw [hf] at hc;have hc:67108864<=f:=of_decide_eq_true hc;obtain ⟨b,hb'⟩:∃ b:Int,b=(if t.1=2 then (f:Int) else f+1):=⟨_,rfl⟩;rw [<- hb'] at ha;have hbb:(f:Int)<=b:=by subst hb';split <;> omega
    have ih:=Ap ts _ a (fun u hu=>hl u (by simp [hu])) ha
    have m1:(67108864:Int)<=t.2*f:=by
     have:=Zs (a:=1) (b:=t.2) (c:=(f:Int)) aa aa;omega
    have m2:(67108864:Int)<=t.2*b:=by
     have:=Zs (a:=1) (b:=t.2) (c:=b) aa aa;omega
    simp only [List.length_cons,Int.natCast_add,Xv] at ih ⊢;omega
theorem Lv {tx ty:List (Int × Int)} {d g:Nat} {q:Int} (hx:IE tx) (hy6:∀ t∈ty,t.1∈c6P∧0<t.2) (ne:ty≠[]) (hd:0<d) (h:D4 tx ty d g=some q):q.natAbs<=8*du tx*g:=by
 unfold D4 at h;split at h
 ·rename_i x y hx' hy';split at h
  ·cases h
  ·obtain ⟨a1,a2,a3⟩:=uw tx 0 0 0 x (fun t ht=>⟨(hx.2 t ht).1,(hx.2 t ht).2.1⟩) aa aa aa hx';obtain ⟨b1,_,_⟩:=uw ty 0 0 0 y (fun t ht=>PH _ (hy6 t ht).1) aa aa aa hy';have b2:=Ap ty (0,0) y hy6 hy'
   have hlen:1<=ty.length:=by cases ty with
    | nil=>exact absurd rfl ne
    | cons t ts=>simp
   have b3:(67108864:Int)<=y.1:=by
    have:=Zs (a:=1) (b:=(ty.length:Int)) (c:=67108864) aa aa;simp only at b2;omega
   rw [Gj aa b1] at h;obtain ⟨lo,hlo⟩:∃ lo,lo=if x.1<0 then y.1 else y.2:=⟨_,rfl⟩
   rw [<- hlo] at h;obtain ⟨hi,hhi⟩:∃ hi,hi=if x.2<0 then y.2 else y.1:=⟨_,rfl⟩
   rw [<- hhi] at h;by_cases hc:x.1*(g:Int) / (lo*d)=x.2*g / (hi*d)
   ·rw [if_pos hc] at h;simp only [Z9] at h;rw [<- h];have lo0:67108864<=lo:=by rw [hlo];split <;> omega
    refine EF (Ww aa aa) ?_;rw [Zi,Zi,Int.natAbs_natCast,Int.natAbs_natCast]
    have e0:x.1.natAbs<=du tx*469762049:=by
     have e:((du tx*469762049:Nat):Int)=(du tx:Int)*469762049:=by rw [Int.natCast_mul];rfl
     omega
    have e1:x.1.natAbs*g<=du tx*469762049*g:=Z3 _ e0
    have e2:du tx*469762049*g<=8*du tx*g*67108864:=by
     have:8*du tx*g*67108864=du tx*536870912*g:=by
      rw [Zw 8,Wu _ 8 g,Nat.mul_assoc (du tx*g),Wu (du tx) 536870912 g]
     rw [this];exact Z3 _ (Z5 _ ae)
    have e3:67108864<=lo.natAbs*d:=Z2 aa (Ze _ hd);exact Z2 e1 (Z2 e2 (Z5 _ e3))
   ·rw [if_neg hc] at h;cases h
 ·cases h
def smT (z:Int) (ts:List (Int × Int)):List (Int × Int):=ts.map fun t=>(t.1,z*t.2)
theorem Dz (h:Int->Int) (z:Int):∀ ts,jv h (smT z ts)=z*jv h ts
 | []=>by simp [smT,jv]
 | t::ts=>by
  have:=Dz h z ts;unfold smT at this;simp only [smT,Zz,jv,this,We,Int.mul_assoc]
theorem If (z c:Int):∀ ts,cfT (smT z ts) c=z*cfT ts c
 | []=>by simp [smT,cfT]
 | t::ts=>by
  have:=If z c ts;unfold smT at this;simp only [smT,Zz,cfT,this,We];split <;> simp
theorem M0 (z:Int):∀ ts,du (smT z ts)=z.natAbs*du ts
 | []=>by simp [smT,du]
 | t::ts=>by
  have:=M0 z ts;unfold smT at this;simp only [smT,Zz,du,this,Zp,Zi]
theorem KU (h:Int->Int):∀ a b,jv h (a++b)=jv h a+jv h b
 | [],b=>by simp [jv]
 | t::a,b=>by simp only [List.cons_append,jv,KU h a b];omega
theorem PS (c:Int):∀ a b,cfT (a++b) c=cfT a c+cfT b c
 | [],b=>by simp [cfT]
 | t::a,b=>by simp only [List.cons_append,cfT,PS c a b];omega
theorem Sw:∀ a b,du (a++b)=du a+du b
 | [],b=>by simp [du]
 | t::a,b=>by simp only [List.cons_append,du,Sw a b];omega
theorem NJ {x y:Int × Int} {d g X Y:Int} {Sx Sy:Nat} (d0:0<d) (g0:0<g) (y0:0<y.1) (x1:x.1<=X) (x2:X<=x.2) (x3:x.2-x.1<=Sx) (y1:y.1<=Y) (y2:Y<=y.2) (y3:y.2-y.1<=Sy) :
  (∃ q,Ae x y d g=some q∧q=x.2*g / ((if x.2<0 then y.2 else y.1)*d))∨Ae x y d g=none∧∃ q:Int,q=x.2*g / ((if x.2<0 then y.2 else y.1)*d)∧(g*X-q*d*Y).natAbs<=g.natAbs*Sx+(q*d).natAbs*Sy:=by
 rw [Gj y0 aa];obtain ⟨lo,hlo⟩:∃ lo,lo=if x.1<0 then y.1 else y.2:=⟨_,rfl⟩
 obtain ⟨hi,hhi⟩:∃ hi,hi=if x.2<0 then y.2 else y.1:=⟨_,rfl⟩
 rw [<- hlo,<- hhi];have lo0:y.1<=lo∧lo<=y.2:=by rw [hlo];split <;> omega
 have hi0:y.1<=hi∧hi<=y.2:=by rw [hhi];split <;> omega
 have pl:0<lo*d:=Ww aa d0;have ph:0<hi*d:=Ww aa d0;by_cases he:x.1*g / (lo*d)=x.2*g / (hi*d)
 ·left;exact ⟨_,by rw [if_pos he,he],rfl⟩
 ·right;refine ⟨if_neg he,_,rfl,?_⟩;obtain ⟨q1,hq1⟩:∃ q1,q1=x.1*g / (lo*d):=⟨_,rfl⟩;obtain ⟨q,hq⟩:∃ q,q=x.2*g / (hi*d):=⟨_,rfl⟩;rw [<- hq1,<- hq] at he;rw [<- hq];have g1:q1*(lo*d)<=x.1*g:=(Wv pl).1 aa;have hxg:x.1*g<=x.2*g:=Zs aa aa
  have hle:q1<=q:=by
   rw [hq];refine (Wv ph).2 ?_;refine Int.le_trans ?_ (Int.le_trans g1 hxg);by_cases hs:0<=q1
   ·have hx0:¬ x.1<0:=by
     intro hneg;have a1:0<=q1*(lo*d):=V0 hs aa;have a2:x.1*g<0:=Int.mul_neg_of_neg_of_pos hneg g0;omega
    rw [if_neg hx0] at hlo;refine Yu (Zs aa aa) hs
   ·have hx0:x.1<0:=by
     have:x.1*g<0*(lo*d):=(Int.ediv_lt_iff_lt_mul pl).1 aa;rw [Int.zero_mul] at this;by_cases hh:x.1<0
     ·exact hh
     ·have:=V0 (a:=x.1) (b:=g) aa aa;omega
    rw [if_pos hx0] at hlo;have a3:lo*d<=hi*d:=Zs aa aa;exact Int.mul_le_mul_of_nonpos_left aa a3
  have g2:x.1*g<q*(lo*d):=(Int.ediv_lt_iff_lt_mul pl).1 aa;have g3:q*(hi*d)<=x.2*g:=(Wv ph).1 aa;obtain ⟨u,hu⟩:∃ u,u=q*d:=⟨_,rfl⟩;have e1:q*(lo*d)=u*lo:=by rw [hu,Yz lo,Int.mul_assoc]
  have e2:q*(hi*d)=u*hi:=by rw [hu,Yz hi,Int.mul_assoc]
  rw [e1] at g2;rw [e2] at g3;rw [<- hu]
  have m1:(u*(lo-Y)).natAbs<=u.natAbs*Sy:=by
   rw [Zi];exact Z5 _ aa
  have m2:(u*(hi-Y)).natAbs<=u.natAbs*Sy:=by
   rw [Zi];exact Z5 _ aa
  rw [Int.mul_sub] at m1 m2
  have k1:g*X<=x.1*g+g*Sx:=by
   have:g*X<=g*(x.1+Sx):=Yu aa aa;rw [We,Yz g x.1] at this;exact this
  have k2:x.2*g-g*Sx<=g*X:=by
   have:g*(x.2-Sx)<=g*X:=Yu aa aa;rw [Int.mul_sub,Yz g x.2] at this;exact this
  have e3:((g.natAbs*Sx:Nat):Int)=g*Sx:=by rw [Int.natCast_mul];congr 1;omega
  omega
theorem Ky {n:Nat}:∀ ts:List (Int × Int),(∀ t∈ts,lg t.1 n+1<=4*2 ^ n)->(aQ n ts (0,0)).1.natAbs<=du ts*(4*2 ^ n)∧(aQ n ts (0,0)).2.natAbs<=du ts*(4*2 ^ n)
 | [],_=>by simp [aQ,du]
 | t::ts,h=>by
  obtain ⟨h1,h2⟩:=Ky ts fun u hu=>h u (by simp [hu])
  have h3:=h t af;obtain ⟨P,hP⟩:∃ P,P=4*2 ^ n:=⟨_,rfl⟩;rw [<- hP] at h1 h2 h3 ⊢;obtain ⟨x,hx⟩:∃ x:Int,x=lg t.1 n:=⟨_,rfl⟩;obtain ⟨y,hy⟩:∃ y:Int,y=if t.1=2 then x else x+1:=⟨_,rfl⟩
  have hxy:y=x∨y=x+1:=by rw [hy];split <;> simp
  have e:aQ n (t::ts) (0,0)=aQ n ts (if t.2<0 then (0+y*t.2,0+x*t.2) else (0+x*t.2,0+y*t.2)):=by
   rw [hy,hx];rfl
  rw [e,qz ts];simp only [du,Xh,Nat.add_mul]
  have m1:(x*t.2).natAbs<=t.2.natAbs*P:=by
   rw [Zi,Zw];exact Z5 _ aa
  have m2:(y*t.2).natAbs<=t.2.natAbs*P:=by
   rw [Zi,Zw];exact Z5 _ aa
  split <;> simp only <;> omega
theorem Hf {n:Nat}:∀ ts:List (Int × Int),(∀ t∈ts,0<t.2∧2 ^ n<=lg t.1 n)->ts≠[]->((2 ^ n:Nat):Int)<=(aQ n ts (0,0)).1
 | [],_,h=>(h rfl).elim
 | t::ts,h,_=>by
  obtain ⟨h1,h2⟩:=h t af;obtain ⟨P,hP⟩:∃ P:Nat,P=2 ^ n:=⟨_,rfl⟩
  have e:aQ n (t::ts) (0,0)=aQ n ts (0+(lg t.1 n:Int)*t.2,0+(if t.1=2 then (lg t.1 n:Int) else (lg t.1 n:Int)+1)*t.2):=by
   have:¬ t.2<0:=aa;simp only [aQ,this,if_false]
  rw [e,qz ts];simp only [Xh]
  have h3:(lg t.1 n:Int)<=lg t.1 n*t.2:=by
   have:=Yu (a:=1) (b:=t.2) (c:=(lg t.1 n:Int)) aa aa;simpa using this
  have h4:0<=(aQ n ts (0,0)).1:=by
   by_cases ht:ts=[]
   ·rw [ht];simp [aQ]
   ·have:=Hf ts (fun u hu=>h u (by simp [hu])) ht;omega
  rw [<- hP] at h2 ⊢;omega
theorem OU {tx ty:List (Int × Int)} {d g:Nat} {i:Nat} (hi:i<6) (d0:0<d) (g0:0<g) (hx:∀ t∈tx,t.1∈c6P) (hy:∀ t∈ty,t.1∈c6P∧0<t.2) (ne:ty≠[]) :
  (∃ q:Int,Ae (aQ (64*2 ^ i) tx (0,0)) (aQ (64*2 ^ i) ty (0,0)) d g=some q∧q.natAbs<=4*du tx*g)∨(Ae (aQ (64*2 ^ i) tx (0,0)) (aQ (64*2 ^ i) ty (0,0)) d g=none∧∃ q:Int,q.natAbs<=4*du tx*g∧((g:Int)*jv (lgI (64*2 ^ i)) tx-q*d*jv (lgI (64*2 ^ i)) ty).natAbs<=g*du tx+(q*d).natAbs*du ty):=by
 obtain ⟨n,hn⟩:∃ n,n=64*2 ^ i:=⟨_,rfl⟩;have hx1:∀ t∈tx,lg t.1 n+1<=4*2 ^ n:=fun t ht=>by rw [hn];exact (PI (hx t ht) hi).2.2
 have hy1:∀ t∈ty,0<t.2∧2 ^ n<=lg t.1 n:=fun t ht=>by rw [hn];exact ⟨(hy t ht).2,(PI (hy t ht).1 hi).2.1⟩
 rw [<- hn];obtain ⟨x1,x2,x3⟩:=oF n tx;obtain ⟨y1,y2,y3⟩:=oF n ty;obtain ⟨b1,b2⟩:=Ky tx hx1;have yp:=Hf ty hy1 ne;have p2:0<2 ^ n:=Yf ae;obtain ⟨P,hP⟩:∃ P:Nat,P=2 ^ n:=⟨_,rfl⟩;rw [<- hP] at b1 b2 yp p2;have y0:0<(aQ n ty (0,0)).1:=aa;have hh:=NJ (d:=(d:Int)) (g:=(g:Int)) aa aa y0 x1 x2 x3 y1 y2 y3
 obtain ⟨x,hx'⟩:∃ x,x=aQ n tx (0,0):=⟨_,rfl⟩;obtain ⟨y,hy'⟩:∃ y,y=aQ n ty (0,0):=⟨_,rfl⟩;rw [<- hx'] at x1 x2 x3 b1 b2 hh ⊢;rw [<- hy'] at y1 y2 y3 yp y0 hh ⊢
 have hb:∀ q,q=x.2*(g:Int) / ((if x.2<0 then y.2 else y.1)*(d:Int))->q.natAbs<=4*du tx*g:=by
  intro q hq;rw [hq];obtain ⟨hi',hhi⟩:∃ hi',hi'=if x.2<0 then y.2 else y.1:=⟨_,rfl⟩
  rw [<- hhi];have hi0:(P:Int)<=hi':=by rw [hhi];split <;> omega
  refine EF (Ww aa aa) ?_;rw [Zi,Zi,Int.natAbs_natCast,Int.natAbs_natCast];have e1:x.2.natAbs*g<=du tx*(4*P)*g:=Z3 _ b2
  have e2:du tx*(4*P)*g=4*du tx*g*P:=by
   rw [Zw 4 P,<- Nat.mul_assoc,Zw 4 (du tx),Wu (du tx) P 4,Wu _ P g]
  have e3:P<=hi'.natAbs*d:=Z2 aa (Ze _ d0);rw [e2] at e1;exact Z2 e1 (Z5 _ e3)
 rcases hh with ⟨q,h1,h2⟩ | ⟨h0,q,h1,h2⟩
 ·exact Or.inl ⟨q,h1,hb q h2⟩
 ·exact Or.inr ⟨h0,q,hb q h1,by simpa using h2⟩
theorem QZ {tx ty:List (Int × Int)} {d g:Nat} (d0:0<d) (g0:0<g) (hx:∀ t∈tx,t.1∈c6P) (hy:∀ t∈ty,t.1∈c6P∧0<t.2) (ne:ty≠[]) (hb:g*du tx+4*du tx*g*d*du ty<=73786976294838206464) :
  (∃ q:Int,∀ c∈c6P,(g:Int)*cfT tx c=q*d*cfT ty c)∨∀ r i,i+r=6->i<=3->∃ q,Ex tx ty d g r (64*2 ^ i)=some q∧q.natAbs<=4*du tx*g:=by
 by_cases hp:∃ q:Int,∀ c∈c6P,(g:Int)*cfT tx c=q*d*cfT ty c
 ·exact Or.inl hp
 ·right;intro r
  induction r with
  | zero=>intro i h1 h2;omega
  | succ r ih=>
   intro i h1 h2;unfold Ex;rcases OU (d:=d) (g:=g) (i:=i) aa d0 g0 hx hy ne with ⟨q,q1,q2⟩ | ⟨q0,q,q1,h⟩
   ·exact ⟨q,by rw [q1],q2⟩
   ·rw [q0];simp only;by_cases hi:i=3
    ·exfalso;subst hi;have e:64*2 ^ 3=512:=ae;rw [e] at h
     ·refine hp ⟨q,fun c hc=>?_⟩
      have hm:∀ t∈smT g tx++smT (-(q*d)) ty,t.1∈c6P:=by
       intro t ht;rcases X7.1 ht with ht | ht
       ·obtain ⟨u,hu,rfl⟩:=Zc.1 ht;exact hx u hu
       ·obtain ⟨u,hu,rfl⟩:=Zc.1 ht;exact (hy u hu).1
      have hS:du (smT g tx++smT (-(q*d)) ty)=g*du tx+(q*d).natAbs*du ty:=by
       rw [Sw,M0,M0,Xz,Int.natAbs_natCast]
      have hle:g*du tx+(q*d).natAbs*du ty<=73786976294838206464:=by
       refine Z2 (Nat.add_le_add_left (Z3 _ ?_) _) hb;rw [Zi,Int.natAbs_natCast];exact Z3 _ q1
      have hs:jv (lgI 512) (smT g tx++smT (-(q*d)) ty)=(g:Int)*jv (lgI 512) tx-q*d*jv (lgI 512) ty:=by
       rw [KU,Dz,Dz,Wx];omega
      have:=wY (n:=512) zb rfl KQ hm (by rw [hS];exact hle) (by rw [hs];exact Z2 h hle) c hc;rw [PS,If,If,Wx] at this;omega
    ·have:=ih (i+1) aa aa;have e:64*2 ^ i*2=64*2 ^ (i+1):=by rw [Nat.pow_succ,Nat.mul_assoc]
     rw [e];exact this
theorem QM (n d:Int):(sE n d).1.natAbs<=n.natAbs:=by
 unfold sE;split
 ·have:=(yT (-n) d.natAbs).1;rwa [Xz] at this
 ·exact (yT n d.natAbs).1
theorem Gg {A m:Nat}:∀ {a b:List Q} {k:Q},(∀ x∈a,0<x.2∧x.1.natAbs<=A)->(∀ y∈b,0<y.2∧y.2<=m)->0<k.2->k.1.natAbs<=A*m->0<(iu k a b).2∧(iu k a b).1.natAbs<=A*m
 | [],b,k,_,_,h1,h2=>by simpa [iu] using ⟨h1,h2⟩
 | x::a,[],k,_,_,h1,h2=>by simpa [iu] using ⟨h1,h2⟩
 | x::a,y::b,k,ha,hb,h1,h2=>by
  obtain ⟨x1,x2⟩:=ha x af;obtain ⟨y1,y2⟩:=hb y af;simp only [iu];refine Gg (fun u hu=>ha u (by simp [hu])) (fun u hu=>hb u (by simp [hu])) ?_ ?_
  ·split
   ·exact h1
   ·rename_i h;exact (Ke (Wt aa h)).1
  ·split
   ·exact h2
   ·unfold ye;refine Z2 (QM _ _) ?_;rw [Zi,Int.natAbs_natCast];exact Zo x2 y2
def IM (q:Int):List Q->List Q->Prop
 | x::a,y::b=>x.1*(y.2:Int)=q*(y.1*(x.2:Int))∧IM q a b
 | _,_=>True
theorem lR {x:Q} (hx:okQ x) {n:Int} {d:Nat} (hd:0<d) (h:x.1*(d:Int)=n*(x.2:Int)):jL n d=x:=by
 obtain ⟨h1,h2⟩:=Kf n hd;have ho:=vp n hd;obtain ⟨y,hy⟩:∃ y,y=jL n d:=⟨_,rfl⟩;rw [<- hy] at h1 h2 ho ⊢;have hd':(d:Int)≠0:=aa
 have e:x.1*(y.2:Int)=y.1*(x.2:Int):=by
  refine Yd hd' ?_;rw [Za,h,Za y.1,h1,Za]
 have e1:x.2 ∣ y.2:=wN (b:=y.2) (a:=y.1) ⟨hx,e⟩;have e2:y.2 ∣ x.2:=wN (b:=x.2) (a:=x.1) ⟨ho,e.symm⟩;have e3:x.2=y.2:=Nat.dvd_antisymm e1 e2;rw [e3] at e;have e4:=Yd aa e;exact Prod.ext e4.symm e3.symm
theorem D3 {q:Int}:∀ {a b:List Q} {k:Q},(∀ x∈a,okQ x)->(∀ y∈b,okQ y)->IM q a b->(k=(q,1)∨True)->iu k a b=(q,1)∨(iu k a b=k∧∀ i,i<a.length->∀ y,b[i]? = some y->y.1=0)
 | [],b,k,_,_,_,_=>Or.inr ⟨by simp [iu],fun i h=>by simp at h⟩
 | x::a,[],k,_,_,_,_=>Or.inr ⟨by simp [iu],fun i h y hy=>by simp at hy⟩
 | x::a,y::b,k,ha,hb,hm,_=>by
  have hx:=ha x af;have hy:=hb y af;obtain ⟨m1,m2⟩:=hm;simp only [iu];by_cases h0:y.1=0
  ·rw [if_pos h0];rcases D3 (k:=k) (fun u hu=>ha u (by simp [hu])) (fun u hu=>hb u (by simp [hu])) m2 (Or.inr trivial) with h | ⟨h,h'⟩
   ·exact Or.inl h
   ·refine Or.inr ⟨h,fun i hi z hz=>?_⟩;cases i with
    | zero=>simp at hz;rw [<- hz];exact h0
    | succ i=>exact h' i (by simpa using hi) z (by simpa using hz)
  ·rw [if_neg h0]
   have e:ye x y=(q,1):=by
    unfold ye sE;rw [m1];have p1:=hx.1;by_cases hn:(x.2:Int)*y.1<0
    ·rw [if_pos hn];refine lR ⟨Vz,af⟩ aa ?_;have:(((x.2:Int)*y.1).natAbs:Int) = -((x.2:Int)*y.1):=aa;rw [this,Yz (x.2:Int)];simp [Int.mul_neg]
    ·rw [if_neg hn];have hne:(x.2:Int)*y.1≠0:=Wt aa h0;refine lR ⟨Vz,af⟩ aa ?_;have:(((x.2:Int)*y.1).natAbs:Int)=(x.2:Int)*y.1:=aa;rw [this,Yz (x.2:Int)];simp
   rw [e];rcases D3 (k:=(q,1)) (fun u hu=>ha u (by simp [hu])) (fun u hu=>hb u (by simp [hu])) m2 (Or.inr trivial) with h | ⟨h,h'⟩
   ·exact Or.inl h
   ·exact Or.inl h
theorem JZ {q:Int}:∀ {a b:List Q},(∀ x∈a,okQ x)->(∀ y∈b,okQ y)->IM q a b->jQ (q,1) a b=true
 | [],b,_,_,_=>by simp [jQ]
 | x::a,[],_,_,_=>by simp [jQ]
 | x::a,y::b,ha,hb,hm=>by
  have hx:=ha x af;have hy:=hb y af;obtain ⟨m1,m2⟩:=hm;simp only [jQ,Z7,decide_eq_true_eq];refine ⟨?_,JZ (fun u hu=>ha u (by simp [hu])) (fun u hu=>hb u (by simp [hu])) m2⟩;unfold lW;refine lR hx (by have:=hy.1;omega) ?_;simp only [Xm];rw [m1,Int.mul_assoc]
theorem J0 {q:Int}:∀ {a b:List Q},a.length=b.length->(∀ x∈a,okQ x)->(∀ y∈b,okQ y)->IM q a b->(∀ i,i<a.length->∀ y,b[i]? = some y->y.1=0)->jQ (0,1) a b=true
 | [],b,_,_,_,_,_=>by simp [jQ]
 | x::a,[],_,_,_,_,_=>by simp [jQ]
 | x::a,y::b,hl,ha,hb,hm,h0=>by
  have hx:=ha x af;have hy:=hb y af;obtain ⟨m1,m2⟩:=hm;have y0:y.1=0:=h0 0 af y af;simp only [jQ,Z7,decide_eq_true_eq];refine ⟨?_,J0 (by simpa using hl) (fun u hu=>ha u (by simp [hu])) (fun u hu=>hb u (by simp [hu])) m2 fun i hi z hz=>h0 (i+1) (by simpa using hi) z (by simpa using hz)⟩;unfold lW;have p:=hy.1;refine lR hx aa ?_
  rw [y0] at m1;simp only [Int.zero_mul,Int.mul_zero,Xm] at m1 ⊢;exact m1
theorem Qp {q:Int} {a b:List Q} (hl:a.length=b.length) (ha:∀ x∈a,okQ x) (hb:∀ y∈b,okQ y) (hm:IM q a b):jQ (iu (0,1) a b) a b=true:=by
 rcases D3 (k:=(0,1)) ha hb hm (Or.inr trivial) with h | ⟨h,h'⟩
 ·rw [h];exact JZ ha hb hm
 ·rw [h];exact J0 hl ha hb hm h'
theorem Py {d g:Nat} {q:Int} (d0:0<d) (g0:0<g):∀ {p:List Int} {a b:List Q},p.Nodup->a.length=p.length->b.length=p.length->(∀ x∈a,0<x.2∧x.2 ∣ d)->(∀ y∈b,0<y.2∧y.2 ∣ g) ->
  (∀ c∈p,(g:Int)*cfT (cV d p a) c=q*d*cfT (cV g p b) c)->IM q a b
 | [],a,b,_,la,lb,_,_,_=>by
  have:a=[]:=Yw.1 la;subst this;simp [IM]
 | c::p,[],b,_,la,_,_,_,_=>by simp at la
 | c::p,x::a,[],_,_,lb,_,_,_=>by simp at lb
 | c::p,x::a,y::b,hn,la,lb,ha,hb,h=>by
  rw [W8] at hn;obtain ⟨x1,dx,hdx⟩:=ha x af;obtain ⟨y1,gy,hgy⟩:=hb y af
  have k1:∀ (D:Nat) (s:List Q),cfT (cV D p s) c=0:=fun D s=>y9 _ fun hm=>by
   obtain ⟨t,ht,e⟩:=Zc.1 hm;exact hn.1 (by rw [<- e];exact sY t ht)
  have k2:∀ (D:Nat) (z:Q) (s:List Q),cfT (cV D (c::p) (z::s)) c=z.1*((D / z.2:Nat):Int):=fun D z s=>by
   simp only [cV];split
   ·rename_i h0;rw [k1,h0];simp
   ·simp [cfT,k1]
  have k3:∀ (D:Nat) (z:Q) (s:List Q) (e:Int),e≠c->cfT (cV D (c::p) (z::s)) e=cfT (cV D p s) e:=fun D z s e he=>by
   simp only [cV];split
   ·rfl
   ·simp [cfT,Ne.symm he]
  refine ⟨?_,Py d0 g0 hn.2 (by simpa using la) (by simpa using lb) (fun u hu=>ha u (by simp [hu])) (fun u hu=>hb u (by simp [hu])) fun e he=>?_⟩
  ·have:=h c af;rw [k2,k2,hdx,hgy,Yl _ x1,Yl _ y1] at this
   have dx0:0<dx:=by
    rcases Zf dx with h | h
    ·rw [h] at hdx;omega
    ·exact h
   have gy0:0<gy:=by
    rcases Zf gy with h | h
    ·rw [h] at hgy;omega
    ·exact h
   have hne:(gy:Int)*(dx:Int)≠0:=Wt aa aa;refine Yd hne ?_;rw [Int.natCast_mul,Int.natCast_mul] at this
   have l:(y.2:Int)*(gy:Int)*(x.1*(dx:Int))=x.1*(y.2:Int)*((gy:Int)*(dx:Int)):=by
    simp only [Yz,W5,Int.mul_assoc]
   have r:q*((x.2:Int)*(dx:Int))*(y.1*(gy:Int))=q*(y.1*(x.2:Int))*((gy:Int)*(dx:Int)):=by
    simp only [Yz,W5,Int.mul_assoc]
   rw [<- l,<- r];exact this
  ·have hec:e≠c:=fun hh=>hn.1 (hh ▸ he)
   have:=h e (by simp [he])
   rwa [k3 _ _ _ _ hec,k3 _ _ _ _ hec] at this
theorem ZC {p:List Int} {a b:List Q} {n A m B:Nat} (hp:in6 p) (n0:0<n) (m0:0<m) (ha:bdL n A a) (hb:bdL m B b) (la:a.length=p.length) (lb:b.length=p.length) (hpos:∀ t∈tq p b,0<t.2) (ne:tq p b≠[])
  (hA:A<9223372036854775808) (hB:B<9223372036854775808) (hn:n<9223372036854775808) (hm:m<9223372036854775808) (hQ:A*m*48<9223372036854775808) (hC:m*(6*A)+4*(6*A)*m*n*(6*B)<=73786976294838206464) :
  ∃ q:Int,AT p a b q∧q.natAbs<=A*m*48:=by
 have oa:=Br n0 ha;have ob:=Br m0 hb;have hAm:A*m<=A*m*48:=Ze _ ae;by_cases hr:jQ (iu (0,1) a b) a b=true
 ·obtain ⟨k1,k2⟩:=Gg (A:=A) (m:=m) (a:=a) (b:=b) (k:=(0,1)) (fun x hx=>by
   obtain ⟨z,z1,z2⟩:=ha x hx;exact ⟨(oa x hx).1,by have:=(Nh n0 z1).1;omega⟩) (fun y hy=>by
   obtain ⟨z,z1,z2⟩:=hb y hy;exact ⟨(ob y hy).1,(Nh m0 z1).2⟩) ae af
  refine ⟨_,Or.inl ⟨hr,rfl⟩,Z2 (EF (M:=(iu (0,1) a b).1.natAbs) aa ?_) (Z2 k2 hAm)⟩;exact Ze _ aa
 ·have hr':jQ (iu (0,1) a b) a b=false:=by simpa using hr
  have tx:=Du hp n0 ha hA;have ty:=Du hp m0 hb hB;have d1:=EZ ha;have g1:=EZ hb;have dle:=X4 n0 d1;have gle:=X4 m0 g1;have d0:0<fC 1 a:=mh ae fun x hx=>(oa x hx).1
  have g0:0<fC 1 b:=mh ae fun x hx=>(ob x hx).1
  have lx:(tq p a).length<=6:=by
   have:=nT (d:=fC 1 a) p a;have:=hp.2.1;unfold tq;omega
  have ly:(tq p b).length<=6:=by
   have:=nT (d:=fC 1 b) p b;have:=hp.2.1;unfold tq;omega
  have sx:du (tq p a)<=6*A:=Z2 (uO (C:=A) _ fun t ht=>uN n0 d1 ha t ht) (Z3 _ lx);have sy:du (tq p b)<=6*B:=Z2 (uO (C:=B) _ fun t ht=>uN m0 g1 hb t ht) (Z3 _ ly);have hx6:∀ t∈tq p a,t.1∈c6P:=rK hp;have hy6:∀ t∈tq p b,t.1∈c6P∧0<t.2:=fun t ht=>⟨rK hp t ht,hpos t ht⟩
  have bQ:8*du (tq p a)*fC 1 b<=A*m*48:=by
   have e:A*m*48=8*(6*A)*m:=by
    rw [Wu A m,<- Nat.mul_assoc,Zw A]
   rw [e];exact Zo (Z5 _ sx) gle
  cases hq:D4 (tq p a) (tq p b) (fC 1 a) (fC 1 b) with
  | some q=>
   have h1:=Lv tx hy6 ne d0 hq;refine ⟨q,Or.inr ⟨hr',tx,ty,aa,aa,Or.inl ⟨hq,aa,aa⟩⟩,aa⟩
  | none=>
   rcases QZ (tx:=tq p a) (ty:=tq p b) d0 g0 hx6 hy6 ne (by
    refine Z2 (Nat.add_le_add (Zo gle sx) ?_) hC;exact Zo (Zo (Zo (Z5 4 sx) gle) dle) sy) with ⟨q,h⟩ | h
   ·exfalso;refine hr (Qp aa oa ob (Py (q:=q) d0 g0 hp.1 la lb (fun x hx=>⟨(oa x hx).1,(oG (s:=a) (d:=1)).2 x hx⟩) (fun y hy=>⟨(ob y hy).1,(oG (s:=b) (d:=1)).2 y hy⟩) fun c hc=>h c (hp.2.2 c hc)))
   ·obtain ⟨q,q1,q2⟩:=h 6 0 ae ae;refine ⟨q,Or.inr ⟨hr',tx,ty,aa,aa,Or.inr ⟨hq,EQ hx6,EQ (rK hp),fun i _=>?_,by simpa using q1⟩⟩,?_⟩
    ·obtain ⟨y1,y2,_⟩:=oF (64*2 ^ i) (tq p b);omega
    ·refine Z2 q2 (Z2 ?_ bQ);have e:4*du (tq p a)*fC 1 b<=8*du (tq p a)*fC 1 b:=Z3 _ aa;exact e
theorem vq {z:Int} {n:Nat} (h0:0<n) (h1:n<1000000000000000000) (h2 : -1000000000000000000<z) (h3:z<1000000000000000000) (hg:Nat.gcd z.natAbs n=1):CP Y F.bJ [I z,I n] (.agg (qT (z,n))):=by
 refine qP ?_;have fo:=OO (n:=z) (d:=(n:Int)) aa aa aa aa aa;rw [GM h0,GN hg] at fo;have fo':CP Y F.kt [I z,I n] (.tup [.agg [S (itoa z),S (ah n)],I 0]):=fo;simp (disch:=try exact ac)[bJ];refine cd fo' ?_;simp (disch:=try exact ac)[];exact kU rfl rfl
theorem GL {p:List Int} {n:Nat} (hp:pcB p=0) (hN:p.length<=20) (hl:0<p.length) (h0:0<n) (h1:n<=10000) (hr:okS (eW p n)):CP Y F.ew [lst di p,I n] (szV (eW p n)):=by
 refine tJ ?_;have eq:=CZ hp aa hl;have nu:=vq (z:=1) (n:=n) h0 aa aa aa af;have le:(fG p.length).length=p.length:=by simp [fG];omega
 have sc:=uV (p:=p) (s:=fG p.length) (k:=(1,n)) hp aa le (AW _) (Sl h0 h1) hr;simp (disch:=try exact ac)[ew];refine cd eq ?_;simp (disch:=try exact ac)[];refine cd nu ?_;simp (disch:=try exact ac)[];refine cd sc ?_ (by simp [aj,aI,szV,bN,qT]);simp (disch:=try exact ac)[]
 exact ⟨_,nz _ _⟩
theorem LL {p r:List Int} {n:Nat} {q:Int} (E:tM p n r q):CP Y F.fh [lst di p,I n,I q,lst di r] (szV (lN p n q (ofQ r))):=by
 refine rV ?_;have st:=GL E.hp E.hN E.hl E.h0 E.h1 E.st;have nu:=vq (z:=q) (n:=1) ae ae E.q1 E.q2 af;have sc:=uV (p:=p) (s:=eW p n) (k:=(q,1)) E.hp (by have:=E.hN;omega) (sZ E.hl) E.st (wX q E.q1 E.q2) E.ti;have of_:=DY E.hp (by have:=E.hN;omega) E.lr E.sr;have lo:(ofQ r).length=p.length:=by simp [ofQ,E.lr]
 have sb:=MR (p:=p) (s:=m5 p n q) (t:=ofQ r) E.hp (by have:=E.hN;omega) (t6 E.hl) E.ti lo E.of E.er;have sc':CP Y F.fL [lst di p,szV (eW p n),.agg (qT (q,1))] (.tup [szV (m5 p n q),I 0]):=sc;simp (disch:=try exact ac)[fh];refine cd st ?_;simp (disch:=try exact ac)[];refine cd nu ?_
 simp (disch:=try exact ac)[];refine cd sc' ?_ (by simp [aj,aI,szV,bN,qT]);simp (disch:=try exact ac)[];refine cd of_ ?_;simp (disch:=try exact ac)[];refine cd sb ?_ (by simp [aj,szV,bN]);simp (disch:=try exact ac)[];exact ⟨_,nz _ _⟩
theorem GQ {p r:List Int} {n:Nat} {q:Int} (E:tM p n r q):CP Y F.dX [lst di p,I n,lst di r] (I q):=by
 refine qi ?_;have st:=GL E.hp E.hN E.hl E.h0 E.h1 E.st;have of_:=DY E.hp (by have:=E.hN;omega) E.lr E.sr;have lo:(ofQ r).length=p.length:=by simp [ofQ,E.lr]
 have ro:=Gb E.hp E.hN lo (sZ E.hl) E.of E.st E.ne E.fl;have q1:=E.q1;have q2:=E.q2;have sm:=SJ (z:=q) (Zb (yQ aa aa) ae)
 have sm':CP Y F.c8 [S (itoa q)] (.tup [I q,B true]):=by
  unfold Ie at sm
  rwa [if_pos ⟨aa,aa⟩] at sm
 simp (disch:=try exact ac)[dX];refine cd of_ ?_;simp (disch:=try exact ac)[];refine cd st ?_;simp (disch:=try exact ac)[];refine cd ro ?_ (by simp [aj,szV,bN]);simp (disch:=try exact ac)[];refine cd sm' ?_ (by simp [aj,aI]);simp (disch:=try exact ac)[] <;> exact bU rfl
theorem QN {p r:List Int} {n:Nat} {q z:Int} (E:tM p n r q) (hz:rT p (lN p n q (ofQ r)) z) (z1 : -1<=z) (z2:z<=1):CP Y F.dW [lst di p,I n,lst di r] (szV (lU p n r q z)):=by
 refine ug ?_;have ne:=GQ E;have wr:=LL E;have lo:(ofQ r).length=p.length:=by simp [ofQ,E.lr]
 have ab:=PY E.hp (by have:=E.hN;omega) (tj (n:=n) (q:=q) E.hl lo) E.er hz z1 z2;simp (disch:=try exact ac)[dW];refine cd ne ?_;simp (disch:=try exact ac)[];refine cd wr ?_;simp (disch:=try exact ac)[];refine cd ab ?_ (by simp [aj,szV,bN]);simp (disch:=try exact ac)[];exact ⟨_,nz _ _⟩
def acL:Acc:=⟨1,0,1,.none⟩
theorem He {s t:List Int} (hN:s.length<1000000) (k:KL):∀ (q r a b:List Int),a++q=s->b++r=t->a.length=b.length->q.length=r.length->(q=r->k (.exit 0) [] [])->(q≠r->k .ret [B false] []) ->
  lp (dw (CX Y) (lst di s) (lst di t)) [] [] [I a.length] [] k
 | [],r,a,b,ha,hb,hab,hqr,h0,h1=>by
  simp at ha;subst ha
  have:r=[]:=by cases r with
   | nil=>rfl
   | cons y r=>simp at hqr
  refine ax ?_;simp (disch:=try exact ac)[dw];exact h0 this.symm
 | x::q,[],a,b,ha,hb,hab,hqr,h0,h1=>by simp at hqr
 | x::q,y::r,a,b,ha,hb,hab,hqr,h0,h1=>by
  have hal:a.length<s.length:=by subst ha;simp
  have hbl:a.length<t.length:=by subst hb;simp;omega
  have hx:nth 0 s a.length=x:=by subst ha;simp
  have hy:nth 0 t a.length=y:=by subst hb;rw [hab];simp
  have i1:=dO di s [] (k:=.i64) (i:=(a.length:Int)) aa aa;have i2:=eU di 0 s [] (j:=a.length) hal;have j1:=dO di t [] (k:=.i64) (i:=(a.length:Int)) aa aa;have j2:=eU di 0 t [] (j:=a.length) hbl;rw [hx] at i2;rw [hy] at j2;simp only [Int.toNat_natCast] at i1 j1;have g1:(a.length:Int)<(s.length:Int):=aa;refine ax ?_;by_cases hxy:x=y
  ·subst hxy;have ih:=He hN k q r (a++[x]) (b++[x]) (by simpa using ha) (by simpa using hb) (by simp [hab]) (by simpa using hqr) (fun e=>h0 (by rw [e])) (fun e=>h1 (by simpa using e));simp (disch:=try exact ac)[dw,i1,i2,j1,j2,g1,hx,hy];simpa using ih
  ·simp (disch:=try exact ac)[dw,i1,i2,j1,j2,g1,hx,hy,hxy];exact h1 (by simp [hxy])
theorem EA {s t:List Int} (hN:s.length<1000000):CP Y F.cn [lst di s,lst di t] (B (decide (s=t))):=by
 refine o5 ?_;have l1:aA (lst di s)=some (I s.length):=rfl;have l2:aA (lst di t)=some (I t.length):=rfl;by_cases h:s.length=t.length
 ·have g:((s.length:Int)=(t.length:Int))=True:=eq_true aa;simp (disch:=try exact ac)[cn,l1,l2,g]
  have:=He (s:=s) (t:=t) hN (exK [(Exit.exit 0,fun l5 h=>out (B (decide (s=t))) (V.d (D.bool true)) h),(Exit.ret,fun l5 h=>out (B (decide (s=t))) (ge l5 0) h)]) s t [] [] rfl rfl rfl h (fun g=>by
   simp (disch:=try exact ac)[];exact jA (by simp [g])) (fun g=>by
   simp (disch:=try exact ac)[];exact jA (by simp [g]))
  refine lo ?_;exact this
 ·have g:¬ ((s.length:Int)=(t.length:Int)):=aa;have:¬ s=t:=fun e=>h (by rw [e])
  simp (disch:=try exact ac)[cn,l1,l2,g] <;> exact jA (by simp [this])
theorem F6 {s t:List Int} (hN:s.length<1000000):CP Y F.dG [lst di s,lst di t] (B (decide (s=t))):=by
 refine pD ?_;simp (disch:=try exact ac)[dG];refine cd (EA hN) ?_;simp (disch:=try exact ac)[] <;> exact jA rfl
def o7:List (List Int):=[[2,3,5],[2,3,5,7],[2,3],[2,3,7],[2,5,7],[3,5,7],[2,3,5,11],[2],[2,3,7,13],[3,5,7,13]]
def tQ (k:Nat):List Int:=o7.getD (k % 10) []
theorem Gn {k:Nat} (hk:k<256):CP Y F.dz [.d (.int .u8 k)] (lst di (tQ k)):=by
 refine qR ?_;have c1:cvI .i64 (.d (.int .u8 (k:Int)))=some (I k):=by rw [KI,wrap_i64 ⟨aa,aa⟩]
 have m1:biI .rem (I (k:Int)) (I 10)=some (I ((k % 10:Nat):Int)):=by
  rw [RF aa,Zu aa];congr 3
 have hkk:k % 10<10:=Yt _ ae;have i1:=fun H:Hp=>dO row o7 H (k:=.i64) (i:=((k % 10:Nat):Int)) aa (by show ((k % 10:Nat):Int)<10;omega)
 have i2:=fun H:Hp=>eU row [] o7 H (j:=k % 10) hkk
 have hn:nth [] o7 (k % 10)=tQ k:=rfl;rw [hn] at i2;generalize k % 10=j at *;simp only [Int.toNat_natCast] at i1;simp (disch:=try exact ac)[dz,dY,gT,jw,toD,c1];have hw:IntKind.wrap .i64 (k:Int)=(k:Int):=wrap_i64 ⟨aa,aa⟩
 show rn (bnd (aA (lst row o7))) (fun v13=>bnd (biI .rem (.d (.int .i64 (IntKind.i64.wrap k))) v13) fun v14=>bnd (ixV [] 1 (lst row o7) v14) fun v15=>bnd (ld1 [] v15) fun v16=>out (lst di (tQ k)) v16 []) .mk
 have l10:aA (lst row o7)=some (I 10):=rfl;rw [hw,l10];rw [SO];rw [show biI .rem (.d (.int .i64 (k:Int))) (I 10)=some (I (j:Int)) from m1];rw [oL,i1,oL,i2,oL];exact Qy ..
def itv (l:Nat) (e:List Int):List Int:=(e.take l).map fun x=>x.tmod 10
def i8V (x:Int):V:=.d (.int .i8 x)
def itH (e:List Int) (L:Nat) (c:List D):Hp:=[(1,.vars (e.map i8V)),acL.b L c]
theorem N2:∀ e:List Int,offB [] (.vars (e.map i8V))=true
 | []=>rfl
 | x::e=>by
  have:=N2 e;rw [tR] at this ⊢;simp [eM,jj,i8V];simpa [i8V] using this
theorem GY {p:List Int} {e:List Int} (he:e.length=4) (hb:∀ x∈e,-128<=x∧x<=127) (hp:p.length<=4) (k:KL) (h0:Hp) (hh:h0.length=2):∀ (f i:Nat),i+f=p.length ->
  k (.exit 0) [acL.v (itv p.length e).length ((itv p.length e).map di)] (itH e (itv p.length e).length ((itv p.length e).map di)) ->
  lp (ft (CX Y) (lst di p) (.ptr 0 1 0 4)) [] h0 [acL.v (itv i e).length ((itv i e).map di),I i] (itH e (itv i e).length ((itv i e).map di)) k
 | 0,i,hi,hk=>by
  have g:¬ (i:Int)<(p.length:Int):=aa;have:i=p.length:=aa;subst this;have l1:aA (lst di p)=some (I p.length):=rfl;refine ax ?_;simp (disch:=try exact ac)[ft,l1];exact hk
 | f+1,i,hi,hk=>by
  have g:(i:Int)<(p.length:Int):=aa;have g2:(i:Int)<4:=aa;have l1:aA (lst di p)=some (I p.length):=rfl;obtain ⟨x,hx⟩:∃ x,e[i]? = some x:=⟨e[i]'(by omega),List.getElem?_eq_getElem aa⟩;have hxm:=hb x (Y6 hx);have li:(itv i e).length=i:=by simp [itv];omega
  have ih:=GY he hb hp k h0 hh f (i+1) aa hk
  have es:itv (i+1) e=itv i e++[x.tmod 10]:=by
   unfold itv;rw [Wn,hx];simp
  rw [es] at ih;have hlt:i<e.length:=aa
  have hxe:e[i]=x:=by
   have:=List.getElem?_eq_getElem hlt;rw [hx] at this;simpa using this.symm
  have he':4=e.length:=he.symm;have r1 : -10<x.tmod 10:=Int.lt_tmod_of_pos x ae;have r2:=Int.tmod_lt_of_pos x (b:=10) ae;have li1:∀ (z:Int) (H:Hp),dY 1 [D.int IntKind.i64 0] [(0,V.d (D.int IntKind.i64 z))] H=some ([di z],H):=fun z H=>by simp [dY,gT,jw,toD,di]
  have cR:((itv i e).map di).length=(itv i e).length*acL.n:=by simp [acL]
  have dp:∀ x y:Nat × Bk,([(1,.vars (e.map i8V)),x]:Hp).set acL.s y=[(1,.vars (e.map i8V)),y]:=fun x y=>rfl
  have hre:∀ x:Hp,x.length=2->aE [] 0 h0 x=x:=fun x hx=>cQ 0 h0 x aa
  have ev:∀ c,acL.v ((itv i e).length+1) c=.ref acL.s (acL.e+1) 0 ((itv i e).length+1) ((itv i e).length+1) c.length:=fun c=>rfl
  have eb:∀ c,acL.b ((itv i e).length+1) c=(acL.e+1,.data acL.n c false false):=fun c=>rfl
  refine ax ?_;simp (disch:=try exact ac)[ft,l1,g,g2,itH,he',hxe,i8V,li1];refine oV acL (k:=1) aa rfl cR (by rfl) rfl (fun t e=>by cases e) aa ae ?_;have hoff:=N2 e;simp (disch:=try exact ac)[dp,hre,clean,eM,mz,mt,dM,jj,hoff];refine ⟨rfl,?_⟩;simpa [ev,eb,itH] using ih
theorem HU {p:List Int} {a b c d:Int} (ha : -128<=a∧a<=127) (hb : -128<=b∧b<=127) (hc : -128<=c∧c<=127) (hd : -128<=d∧d<=127) (hp:p.length<=4):CP Y F.cO [lst di p,.agg [i8V a,i8V b,i8V c,i8V d]] (lst di (itv p.length [a,b,c,d])):=by
 refine pE ?_
 have hl:=GY (p:=p) (e:=[a,b,c,d]) rfl (by
  intro x hx;simp only [Zt,Zd,or_false] at hx;rcases hx with rfl | rfl | rfl | rfl <;> assumption) hp (exK [((.exit 0),fun l2 h=>out (lst di (itv p.length [a,b,c,d])) (ge l2 0) h)]) [(1,.vars [i8V a,i8V b,i8V c,i8V d]),(0,.none)] rfl p.length 0 aa (by
  obtain ⟨h',q1,_⟩:=oM acL (L:=(itv p.length [a,b,c,d]).length) (cells:=(itv p.length [a,b,c,d]).map di) (h:=itH [a,b,c,d] (itv p.length [a,b,c,d]).length ((itv p.length [a,b,c,d]).map di)) rfl (by simp [acL]);simp only [exK];exact ⟨h',q1⟩)
 simp (disch:=try exact ac)[cO];exact hl
theorem Jt (n k:Nat) (hn:0<n):kL (1,n) (List.replicate k (0,1)) (List.replicate k (0,1))=List.replicate k (0,1):=by
 induction k with
 | zero=>simp [kL]
 | succ k ih=>
  rw [List.replicate_succ,kL,ih];have e1:lW ((0,1):Q) (1,n)=(0,1):=lR ⟨Vz,af⟩ (by simpa using hn) af;have e2:oz ((0,1):Q) (0,1)=(0,1):=ae;rw [e1,e2]
theorem zF {p:List Int} {n:Nat} (hl:0<p.length) (h0:0<n):eW p n=(1,n)::List.replicate (p.length-1) (0,1):=by
 obtain ⟨k,hk⟩:∃ k,p.length=k+1:=⟨p.length-1,aa⟩;unfold eW j4 fG;rw [hk,List.replicate_succ];simp only [oY,kL,Xf];rw [Jt n k h0];have e1:lW ((1,1):Q) (1,n)=(1,n):=lR ⟨h0,af⟩ (by simpa using h0) af;rw [e1];have e2:oz ((0,1):Q) (1,n)=(1,n):=lR ⟨h0,af⟩ (by simpa using h0) af;rw [e2]
theorem EX {p:List Int} {n:Nat} (hl:0<p.length) (h0:0<n):bdL n 1 (eW p n):=by
 rw [zF hl h0];intro x hx;simp only [Zt,X6] at hx;rcases hx with rfl | ⟨_,rfl⟩
 ·exact ⟨1,⟨⟨h0,af⟩,af⟩,ae⟩
 ·exact ⟨0,yG n,ae⟩
theorem Cp {d:Nat} (hd:0<d):∀ {p:List Int} {s:List Q},(∀ x∈s,0<=x.1∧0<x.2∧x.2 ∣ d)->∀ t∈cV d p s,0<t.2
 | [],s,_,t,ht=>by simp [cV] at ht
 | p::ps,[],_,t,ht=>by simp [cV] at ht
 | p::ps,x::s,h,t,ht=>by
  have ih:=Cp hd (p:=ps) (s:=s) fun y hy=>h y (by simp [hy])
  obtain ⟨h0,h1,h2⟩:=h x af;have h3:0<d / x.2:=V5 (X4 hd h2) h1;simp only [cV] at ht;split at ht
  ·exact ih t ht
  ·rename_i hx;simp only [Zt] at ht;rcases ht with rfl | ht
   ·exact Ww aa aa
   ·exact ih t ht
theorem R5 {p:List Int} {x:Q} {s:List Q} (hp:0<p.length) (hx:x.1≠0):tq p (x::s)≠[]:=by
 cases p with
 | nil=>simp at hp
 | cons c p=>simp [tq,cV,hx]
theorem Qm {p:List Int} {n:Nat} (hl:0<p.length) (h0:0<n):∃ x:Q,uh p (eW p n)=x::List.replicate (p.length-1) (0,1)∧0<x.1:=by
 obtain ⟨k,hk⟩:∃ k,p.length=k+1:=⟨p.length-1,aa⟩;rw [zF hl h0];unfold uh j4;rw [hk,List.replicate_succ];simp only [oY,kL,Xf]
 have e:∀ k,kL (2,1) (List.replicate k (0,1)) (List.replicate k (0,1))=List.replicate k (0,1):=by
  intro k
  induction k with
  | zero=>simp [kL]
  | succ k ih=>
   rw [List.replicate_succ,kL,ih];have:oz ((0,1):Q) (lW (0,1) (2,1))=(0,1):=ae;rw [this]
 rw [e k];refine ⟨_,rfl,?_⟩;have r1:rp n ((1,n):Q) 1:=⟨⟨h0,af⟩,af⟩;have r2:=Ip (yG n) (D2 2 r1);have h:=r2.2;have h':=r2.1.1;obtain ⟨y,hy⟩:∃ y:Q,y=oz (0,1) (lW (1,n) (2,1)):=⟨_,rfl⟩;rw [<- hy] at h h' ⊢;have h2:0<y.1*(n:Int):=by rw [h];omega
 by_cases hy0:0<y.1
 ·exact hy0
 ·have:=V0 (a:=-y.1) (b:=(n:Int)) aa aa;rw [Wx] at this;omega
theorem KY {z:Int} (h1 : -1<=z) (h2:z<=1):(po z).natAbs<=1:=by
 have:z = -1∨z=0∨z=1:=aa;rcases this with rfl | rfl | rfl <;> decide
theorem Ig {r:List Int} (hr:∀ x∈r,x.natAbs<=9):smR r=true:=by
 unfold smR;rw [Zx];intro x hx;have:=hr x hx;simp only [Z7,decide_eq_true_eq];omega
theorem EY {p r:List Int} {n:Nat} {q:Int} (hl:0<p.length) (h0:0<n) (hr:∀ x∈r,x.natAbs<=9):bdL n (q.natAbs+9*n) (lN p n q (ofQ r)):=by
 have h1:bdL n (q.natAbs*1) (m5 p n q):=wj (EX hl h0);have h2:=Sv (b:=n) hr;have:=EW (n:=p.length) (z:=1) (w:=-1) h1 h2;unfold lN;simpa using this
theorem nr6 {p:List Int} {s:List Q} {n b A:Nat} (hp:in6 p) (hl:0<p.length) (h0:0<n) (h1:n<=10000) (hb0:0<b) (hb1:b<=12) (hA1:A<=600) (ls:s.length=p.length) (hs:bdL b A s) :
  ∃ q:Int,AT p (yd p s (eW p n)) (uh p (eW p n)) q∧q.natAbs<=(2*A*n+b)*n*48:=by
 have hb:=EX hl h0 (p:=p)
 have hB:bdL n 2 (uh p (eW p n)):=by
  have:=wj (n:=p.length) (z:=2) hb;simpa [uh] using this
 have hA:bdL (b*n) (2*A*n+b) (yd p s (eW p n)):=by
  have b1:=wm n hs;have b2:=wm b hb;rw [Zw n b] at b2;have:=EW (n:=p.length) (z:=2) (w:=1) b1 b2;unfold yd;refine wn this ?_;have e1:(2:Int).natAbs=2:=rfl;have e2:(1:Int).natAbs=1:=rfl;rw [e1,e2,Xm,Xm,Nat.mul_assoc];exact Z6 _
 have lst:(eW p n).length=p.length:=sZ hl
 have la:(yd p s (eW p n)).length=p.length:=mS fun t ht=>by
  simp only [Zt,Zd,or_false] at ht;rcases ht with rfl | rfl
  ·exact ls
  ·exact lst
 have lb:(uh p (eW p n)).length=p.length:=mS fun t ht=>by
  simp only [Zt,Zd,or_false] at ht;rw [ht];exact lst
 obtain ⟨x,hx,hx0⟩:=Qm hl h0 (p:=p)
 have c1:2*A*n+b<=12000012:=by
  have:2*A*n<=1200*10000:=Zo aa h1;omega
 have c2:b*n<=120000:=Zo hb1 h1;have m1:(2*A*n+b)*n<=12000012*10000:=Zo c1 h1;have m2:n*(6*(2*A*n+b))<=10000*(6*12000012):=Zo h1 (Z5 _ c1)
 have m3:4*(6*(2*A*n+b))*n*(b*n)*(6*2)<=4*(6*12000012)*10000*120000*(6*2):=Z3 _ (Zo (Zo (Z5 _ (Z5 _ c1)) h1) c2)
 exact ZC hp (Yp hb0 h0) h0 hA hB la lb (Cp (mh ae fun y hy=>(Br h0 hB y hy).1) fun y hy=>⟨by
   rw [hx] at hy;simp only [Zt,X6] at hy;rcases hy with rfl | ⟨_,rfl⟩
   ·omega
   ·decide,(Br h0 hB y hy).1,(oG (s:=uh p (eW p n)) (d:=1)).2 y hy⟩) (by rw [hx];exact R5 hl aa) aa aa aa aa aa aa
theorem er6 {p r:List Int} {n:Nat} (hpc:pcB p=0) (hp:in6 p) (hl:0<p.length) (h0:0<n) (h1:n<=10000) (lr:r.length=p.length) (hr:∀ x∈r,x.natAbs<=9) :
  ∃ q:Int,tM p n r q∧q.natAbs<=(18*n+1)*n*48:=by
 have hb:=EX hl h0 (p:=p);have lo:(ofQ r).length=p.length:=by simp [ofQ,lr]
 have ho:bdL 1 9 (ofQ r):=Sv (b:=1) hr;obtain ⟨q,q1,q2⟩:=nr6 hp hl h0 h1 (b:=1) (A:=9) ae ae ae lo ho;have q2:q.natAbs<=(18*n+1)*n*48:=q2;have m1:(18*n+1)*n<=180001*10000:=Zo aa h1;have hq:q.natAbs<=86400480000:=aa
 refine ⟨q,⟨hpc,by have:=hp.2.1;omega,hl,h0,h1,lr,Ig hr,sT h0 hb aa aa,?_,?_,q1,aa,aa,?_,?_⟩,q2⟩
 ·exact sT (b:=1) aa ho aa aa
 ·rw [zF hl h0];exact R5 hl af
 ·have h2:bdL n (q.natAbs*1) (m5 p n q):=wj hb;exact sT h0 h2 aa aa
 ·exact sT h0 (EY hl h0 hr) aa aa
theorem rc6 {p r:List Int} {lim:Nat} (hpc:pcB p=0) (hp:in6 p) (hl:0<p.length) (hlim:lim<=100) (lr:r.length=p.length) (hr:∀ x∈r,x.natAbs<=9) :
  ∃ (qf zf:Nat->Int) (ls:Nat->Nat->Bool),RY p r lim qf zf ls:=by
 have H:∀ n,∃ w:Int × Int,1<=n->n<=lim->tM p n r w.1∧w.1.natAbs<=8644800∧rT p (lN p n w.1 (ofQ r)) w.2∧-1<=w.2∧w.2<=1:=by
  intro n;by_cases h:1<=n∧n<=lim
  ·obtain ⟨q,q1,q2⟩:=er6 (n:=n) hpc hp hl h.1 aa lr hr;have hn:n<=100:=aa;have m1:(18*n+1)*n<=1801*100:=Zo aa hn;have hq:q.natAbs<=8644800:=aa;obtain ⟨z,z1,z2,z3⟩:=sg6 hp h.1 (EY (q:=q) hl h.1 hr) aa;exact ⟨(q,z),fun _ _=>⟨q1,hq,z1,z2,z3⟩⟩
  ·exact ⟨(0,0),fun h1 h2=>absurd ⟨h1,h2⟩ h⟩
 obtain ⟨f,hf⟩:=Classical.axiomOfChoice H
 have hbA:∀ n,1<=n->n<=lim->bdL n (8644800+900) (lU p n r (f n).1 (f n).2):=by
  intro n h1 h2;obtain ⟨_,hq,_,z1,z2⟩:=hf n h1 h2;have:=wj (n:=p.length) (z:=po (f n).2) (EY (q:=(f n).1) hl h1 hr);unfold lU HS;refine wn this ?_;refine Z2 (Z3 _ (KY z1 z2)) ?_;omega
 have H2:∀ w:Nat × Nat,∃ z:Int,1<=w.2->w.2<w.1->w.1<=lim->rT p (dfS p (lU p w.1 r (f w.1).1 (f w.1).2) (lU p w.2 r (f w.2).1 (f w.2).2)) z:=by
  rintro ⟨n,m⟩;by_cases h:1<=m∧m<n∧n<=lim
  ·obtain ⟨h1,h2,h3⟩:=h;have b1:=wm m (hbA n aa h3);have b2:=wm n (hbA m h1 aa);rw [Zw m n] at b2;have b3:=EW (n:=p.length) (z:=1) (w:=-1) b1 b2;have e1:(8644800+900)*m<=(8644800+900)*100:=Z5 _ aa;have e2:(8644800+900)*n<=(8644800+900)*100:=Z5 _ aa
   obtain ⟨z,z1,_⟩:=sg6 hp (Yp aa aa) b3 (by
    have a1:(1:Int).natAbs=1:=rfl;have a2:(-1:Int).natAbs=1:=rfl;rw [a1,a2];omega)
   exact ⟨z,fun _ _ _=>z1⟩
  ·exact ⟨0,fun h1 h2 h3=>absurd ⟨h1,h2,h3⟩ h⟩
 obtain ⟨g,hg⟩:=Classical.axiomOfChoice H2;refine ⟨fun n=>(f n).1,fun n=>(f n).2,fun n m=>decide (g (n,m)<0),⟨fun n h1 h2=>(hf n h1 h2).1,fun n h1 h2=>(hf n h1 h2).2.2,fun n h1 h2=>sT h1 (hbA n h1 h2) aa aa,fun n m h1 h2 h3=>⟨g (n,m),hg (n,m) h1 h2 h3,rfl⟩⟩⟩
theorem NT:∀ l∈o7,pcB l=0∧l.Nodup∧0<l.length∧l.length<=4∧∀ x∈l,x∈c6P:=aM
theorem wS (k:Nat):tQ k∈o7:=by
 unfold tQ;have h:k % 10<o7.length:=Yt _ ae;rw [Zy,List.getElem?_eq_getElem h];exact Xg h
theorem Kn {p:List Int} {e:List Int} (he:e.length=4) (hp:p.length<=4):(itv p.length e).length=p.length:=by simp [itv];omega
theorem OF (k:Nat) (e:List Int):∀ x∈itv k e,x.natAbs<=9:=by
 intro x hx;simp only [itv,Zc] at hx;obtain ⟨y,_,rfl⟩:=hx;have h1:=Int.tmod_lt_of_pos y (b:=10) ae;have h2 : -10<y.tmod 10:=Int.lt_tmod_of_pos y ae;omega
end Go.Vm
