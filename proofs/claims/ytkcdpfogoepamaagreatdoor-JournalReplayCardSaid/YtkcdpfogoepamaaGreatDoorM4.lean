/- Part 4 of the texts that the theorem needs: an interpreter on data, proved sound; the functions on data; laws about them. -/
import Derived.Test.YtkcdpfogoepamaaGreatDoorM3
set_option linter.unusedSimpArgs false
set_option linter.unusedVariables false
set_option linter.unnecessarySimpa false
set_option maxHeartbeats 2000000
set_option maxRecDepth 100000
namespace Go.Proofs.YtkcdpfogoepamaaGreatDoor
open Go.Eng Go.Pi
noncomputable section
def Ki(a b:D)(ds:List D)(c:J):Option bK:=
 (O tab .lss U (Z 2 ds) b).bind λb=>S b
  ((aO tab aP a (Z 2 ds)).bind λa=>(Y tab c cD a).bind λa=>(O tab .mul eG (Z 0 ds) (.int .u64 31)).bind λd=>(dT tab cD eG a).bind λe=>(O tab .add eG d e).bind λd=>(O tab .rem eG d (.int .u64 4294967291)).bind λd=>(O tab .add U (Z 2 ds) (.int .i64 1)).bind λe=>some (.aQ,[d,a,e,b],c))
  (some ((.ext 0),[(Z 0 ds),(Z 1 ds),(Z 2 ds),b],c))
def Kh(a:D)(h:J):Option (D × J):=
 (bC tab aP a).bind λb=>((cA (Ki a b) [.int .u64 1,.any,.int .i64 0,.any] h).bind λa=>some ((bX 0 a.1),[(Z 0 a.2.1),(Z 1 a.2.1),(Z 2 a.2.1),(Z 3 a.2.1)],a.2.2)).bind λa=>cI a.1 (some (aF [(Z 0 a.2.1)],a.2.2)) λb=>dC b (some (aF [.int .u64 0],a.2.2))
theorem Vn(a:D)(h:J):R yu [a] h=Kh a h:=
 er F1
def Bi(a b c:D)(ds:List D)(d:J):Option bK:=
 (O tab .lss U (Z 1 ds) c).bind λc=>S c
  ((aO tab pX b (Z 1 ds)).bind λb=>(Y tab d Rm b).bind λb=>(iH tab R "logtide/event.number" [a,b] d).bind λa=>(O tab .add U (Z 1 ds) (.int .i64 1)).bind λe=>some (.aQ,[b,e,c],a.2))
  (some ((.ext 0),[(Z 0 ds),(Z 1 ds),c],d))
def wT(a b:D)(c:D × J)(d:List D)(e:J):Option bK:=
 (O tab .lss U (Z 2 d) c.1).bind λc=>S c
  ((dS tab b).bind λf=>(aB tab aC 4 f).bind λf=>(Y tab e bU f).bind λf=>(bC tab bU f).bind λf=>(O tab .eql U (Z 2 d) f).bind λf=>(S f
  ((dS tab b).bind λg=>(aB tab aC 4 g).bind λg=>(Y tab e bU g).bind λg=>(eD tab dD [] []).bind λh=>(dL tab bU 1 [0] [h]).bind λh=>(dB tab e bU bU g h).bind λg=>(dS tab b).bind λh=>(aB tab aC 4 h).bind λh=>((aS tab g.2 bU h g.1).bind λg=>some ((.bA:D),g)).bind λg=>some (.aQ,([]:List D),g.2))
  (some (.aQ,([]:List D),e))).bind λg=>cI g.1 ((dS tab b).bind λb=>(aB tab aC 4 b).bind λb=>(Y tab g.2.2 bU b).bind λb=>(aO tab bU b (Z 2 d)).bind λb=>(dS tab b).bind λh=>(aB tab dD 0 h).bind λh=>(some (.fn (.method "logtide/event.number") [a] []:D)).bind λi=>(dS tab i).bind λi=>(iH tab R "logtide/event.number" [a,h] g.2.2).bind λh=>(dS tab b).bind λi=>(aB tab dD 1 i).bind λi=>(some (.fn (.method "logtide/event.number") [a] []:D)).bind λj=>(dS tab j).bind λj=>(iH tab R "logtide/event.number" [a,i] h.2).bind λh=>(dS tab b).bind λi=>(aB tab dD 2 i).bind λi=>(some (.fn (.method "logtide/event.text") [a] []:D)).bind λj=>(dS tab j).bind λj=>(iH tab R "logtide/event.text" [a,i] h.2).bind λa=>(O tab .add U (Z 2 d) (.int .i64 1)).bind λh=>some (.aQ,[(Z 2 d),b,h,c,f],a.2)) λa=>cI (bX 3 a) ((O tab .add U (Z 2 d) (.int .i64 1)).bind λa=>some (.aQ,[(Z 2 d),(Z 1 d),a,c,f],g.2.2)) λa=>some (a,[(Z 2 d),(Z 1 d),(Z 2 d),c,f],g.2.2))
  (some ((.ext 2),[(Z 0 d),(Z 1 d),(Z 2 d),c,(Z 4 d)],e))
def wU(a b:D)(c:D × J)(d:List D)(e:J):Option bK:=
 (O tab .lss U (Z 1 d) c.1).bind λc=>S c
  ((dS tab b).bind λf=>(aB tab aC 9 f).bind λf=>(Y tab e bQ f).bind λf=>(bC tab bQ f).bind λf=>(O tab .eql U (Z 1 d) f).bind λf=>(S f
  ((dS tab b).bind λg=>(aB tab aC 9 g).bind λg=>(Y tab e bQ g).bind λg=>(eD tab bE [] []).bind λh=>(dL tab bQ 1 [0] [h]).bind λh=>(dB tab e bQ bQ g h).bind λg=>(dS tab b).bind λh=>(aB tab aC 9 h).bind λh=>((aS tab g.2 bQ h g.1).bind λg=>some ((.bA:D),g)).bind λg=>some (.aQ,([]:List D),g.2))
  (some (.aQ,([]:List D),e))).bind λg=>cI g.1 ((dS tab b).bind λh=>(aB tab aC 9 h).bind λh=>(Y tab g.2.2 bQ h).bind λh=>(aO tab bQ h (Z 1 d)).bind λh=>(aB tab bE 0 h).bind λh=>(some (.fn (.method "logtide/event.text") [a] []:D)).bind λi=>(dS tab i).bind λi=>(iH tab R "logtide/event.text" [a,h] g.2.2).bind λh=>(dS tab b).bind λb=>(aB tab aC 9 b).bind λb=>(Y tab h.2 bQ b).bind λb=>(aO tab bQ b (Z 1 d)).bind λb=>(aB tab bE 1 b).bind λb=>(some (.fn (.method "logtide/event.text") [a] []:D)).bind λi=>(dS tab i).bind λi=>(iH tab R "logtide/event.text" [a,b] h.2).bind λa=>(O tab .add U (Z 1 d) (.int .i64 1)).bind λb=>some (.aQ,[(Z 1 d),b,c,f],a.2)) λa=>cI (bX 5 a) ((O tab .add U (Z 1 d) (.int .i64 1)).bind λa=>some (.aQ,[(Z 1 d),a,c,f],g.2.2)) λa=>some (a,[(Z 1 d),(Z 1 d),c,f],g.2.2))
  (some ((.ext 4),[(Z 0 d),(Z 1 d),c,(Z 3 d)],e))
def Bh(a b:D)(h:J):Option (D × J):=
 (dS tab b).bind λc=>(aB tab aH 1 c).bind λc=>(dS tab b).bind λb=>(aB tab aH 0 b).bind λb=>(some (.fn (.method "logtide/event.text") [a] []:D)).bind λd=>(dS tab d).bind λd=>(iH tab R "logtide/event.text" [a,b] h).bind λb=>(dS tab c).bind λd=>(aB tab aC 0 d).bind λd=>(dS tab c).bind λe=>(aB tab aC 1 e).bind λe=>(dS tab c).bind λf=>(aB tab aC 2 f).bind λf=>(dS tab c).bind λg=>(aB tab aC 3 g).bind λg=>(dL tab pX 4 [0,1,2,3] [d,e,f,g]).bind λd=>(bC tab pX d).bind λe=>((cA (Bi a d e) [.any,.int .i64 0,.any] b.2).bind λb=>some ((bX 0 b.1),[(Z 0 b.2.1),(Z 1 b.2.1),(Z 2 b.2.1)],b.2.2)).bind λb=>cI b.1 ((dS tab c).bind λd=>(aB tab aC 4 d).bind λd=>(Y tab b.2.2 bU d).bind λd=>(bC tab bU d).bind λd=>(some (.fn (.method "logtide/event.count") [a] []:D)).bind λe=>(dS tab e).bind λe=>(iH tab R "logtide/event.count" [a,d] b.2.2).bind λd=>((cA (wT a c d) [.any,.any,.int .i64 0,.any,.any] d.2).bind λd=>some ((bX 2 d.1),[(Z 0 d.2.1),(Z 1 d.2.1),(Z 2 d.2.1),(Z 3 d.2.1),(Z 4 d.2.1)],d.2.2)).bind λd=>cI d.1 ((dS tab c).bind λe=>(aB tab aC 5 e).bind λe=>(some (.fn (.method "logtide/event.number") [a] []:D)).bind λf=>(dS tab f).bind λf=>(iH tab R "logtide/event.number" [a,e] d.2.2).bind λe=>(dS tab c).bind λf=>(aB tab aC 6 f).bind λf=>(some (.fn (.method "logtide/event.number") [a] []:D)).bind λg=>(dS tab g).bind λg=>(iH tab R "logtide/event.number" [a,f] e.2).bind λe=>(dS tab c).bind λf=>(aB tab aC 7 f).bind λf=>(some (.fn (.method "logtide/event.text") [a] []:D)).bind λg=>(dS tab g).bind λg=>(iH tab R "logtide/event.text" [a,f] e.2).bind λe=>(dS tab c).bind λf=>(aB tab aC 8 f).bind λf=>(some (.fn (.method "logtide/event.text") [a] []:D)).bind λg=>(dS tab g).bind λg=>(iH tab R "logtide/event.text" [a,f] e.2).bind λe=>(dS tab c).bind λf=>(aB tab aC 9 f).bind λf=>(Y tab e.2 bQ f).bind λf=>(bC tab bQ f).bind λf=>(some (.fn (.method "logtide/event.count") [a] []:D)).bind λg=>(dS tab g).bind λg=>(iH tab R "logtide/event.count" [a,f] e.2).bind λe=>((cA (wU a c e) [.any,.int .i64 0,.any,.any] e.2).bind λa=>some ((bX 4 a.1),[(Z 0 a.2.1),(Z 1 a.2.1),(Z 2 a.2.1),(Z 3 a.2.1)],a.2.2)).bind λa=>dC a.1 (some (aF [],a.2.2))) λa=>dC a (some (aF [],d.2.2))) λa=>dC a (some (aF [],b.2.2))
theorem Nj(a b:D)(h:J):R vn [a,b] h=Bh a b h:=
 er F2
def Ji(a:D)(h:J):Option (D × J):=
 (e9 a).bind λa=>(aB tab aH 1 a).bind λb=>(Y tab h aC b).bind λb=>(gM 10 b).bind λb=>(aB tab aH 0 a).bind λc=>(Y tab h bH c).bind λc=>(O tab .eql bH c (.str [])).bind λc=>S c
  ((Y tab h aC b).bind λc=>(R u7 [c] h).bind λc=>some (aF [c.1],c.2))
  ((aB tab aH 0 a).bind λa=>(Y tab h bH a).bind λa=>(bC tab bH a).bind λa=>(O tab .gtr U a (.int .i64 32)).bind λa=>S a
  (some (aF [.int .i64 3],h))
  ((Y tab h aC b).bind λa=>(R ye [a] h).bind λa=>(fS .not a.1).bind λc=>S c
  (some (aF [.int .i64 2],a.2))
  ((Y tab a.2 aC b).bind λc=>(R yf [c,.int .i64 60000] a.2).bind λa=>(O tab .eql hz a.1 (.int .i64 9)).bind λc=>(W c false (some a.1)).bind λd=>(W c false (O tab .eql hz d (.int .i64 4))).bind λd=>(cV c (.bool true) d).bind λc=>(W c false (some a.1)).bind λd=>(W c false (O tab .eql hz d (.int .i64 19))).bind λd=>(cV c (.bool true) d).bind λc=>S c
  (some (aF [a.1],a.2))
  ((aB tab aC 5 b).bind λc=>(Y tab a.2 U c).bind λc=>(O tab .neq U c (.int .i64 0)).bind λc=>(W c false (aB tab aC 6 b)).bind λd=>(W c false (Y tab a.2 U d)).bind λd=>(W c false (O tab .neq U d (.int .i64 0))).bind λd=>(cV c (.bool true) d).bind λc=>(W c false (aB tab aC 7 b)).bind λd=>(W c false (Y tab a.2 bH d)).bind λd=>(W c false (O tab .neq bH d (.str []))).bind λd=>(cV c (.bool true) d).bind λc=>(W c false (aB tab aC 8 b)).bind λd=>(W c false (Y tab a.2 bH d)).bind λd=>(W c false (O tab .neq bH d (.str []))).bind λd=>(cV c (.bool true) d).bind λc=>(W c false (aB tab aC 9 b)).bind λd=>(W c false (Y tab a.2 bQ d)).bind λd=>(W c false (bC tab bQ d)).bind λd=>(W c false (O tab .neq U d (.int .i64 0))).bind λd=>(cV c (.bool true) d).bind λc=>(W c false (aB tab aC 4 b)).bind λb=>(W c false (Y tab a.2 bU b)).bind λb=>(gQ c false a.2 (R Dm [b,.fn (.func u9) [] []] a.2)).bind λa=>(cV c (.bool true) a.1).bind λb=>S b
  (some (aF [.int .i64 19],a.2))
  (some (aF [.int .i64 0],a.2))))))
theorem Uz(a:D)(h:J):R pv [a] h=Ji a h:=
 er F3
def KD(a b:D)(h:J):Option (D × J):=
 (dT tab U eG b).bind λc=>(O tab .shr eG c (.int .u64 32)).bind λc=>(dT tab eG fK c).bind λc=>(R rF [c] h).bind λc=>(dT tab U fK b).bind λb=>(R rF [b] c.2).bind λb=>(dL tab gC 3 [0,1,2] [a,c.1,b.1]).bind λa=>(R s9 [a] b.2).bind λa=>some (aF [a.1],a.2)
theorem VC(a b:D)(h:J):R vr [a,b] h=KD a b h:=
 er F4
def Kd(a:D)(h:J):Option (D × J):=
 (kV aH 11 h a).bind λa=>(Y tab a.2 aH a.1).bind λb=>(R pv [b] a.2).bind λb=>(O tab .neq hz b.1 (.int .i64 0)).bind λc=>S c
  (scope h b.2 (aF [.aA,b.1]))
  ((pk tab b.2 aP (.int .i64 4) (.int .i64 4)).bind λb=>(eD tab jm [0] [b.1]).bind λc=>(kV jm 1 b.2 c).bind λb=>(some (.iface nX b.1:D)).bind λc=>(R vn [c,a.1] b.2).bind λa=>(dS tab b.1).bind λc=>(aB tab jm 0 c).bind λc=>(Y tab a.2 aP c).bind λd=>(dS tab b.1).bind λe=>(aB tab jm 0 e).bind λe=>(Y tab a.2 aP e).bind λe=>(bC tab aP e).bind λe=>(dT tab U eG e).bind λe=>(R mZ [.aA,e,.int .i64 4] a.2).bind λa=>(mP tab a.2 aP aP d a.1).bind λe=>dY (Y tab a.2 aP c=some d)
 ((dS tab b.1).bind λa=>(aB tab jm 0 a).bind λa=>(Y tab e.2 aP a).bind λc=>(dS tab b.1).bind λb=>(aB tab jm 0 b).bind λb=>(Y tab e.2 aP b).bind λb=>(R yu [b] e.2).bind λb=>(R mZ [c,b.1,.int .i64 4] b.2).bind λd=>dY (Y tab b.2 aP a=some c)
 (scope h d.2 (aF [d.1,.int .i64 0]))))
theorem Vj(a:D)(h:J):R yt [a] h=Kd a h:=
 er F5
def IU(a b c:D)(h:J):Option (D × J):=
 (e9 a).bind λa=>(aB tab aX 0 a).bind λd=>(Y tab h dV d).bind λd=>(R s5 [d,b,c] h).bind λb=>(cT 0 b.1).bind λc=>(cT 1 b.1).bind λd=>S d
  ((aB tab aX 0 a).bind λa=>(Y tab b.2 dV a).bind λa=>(aO tab dV a c).bind λa=>(aB tab eO 2 a).bind λa=>(Y tab b.2 U a).bind λa=>some (aF [a],b.2))
  (some (aF [.int .i64 0],b.2))
theorem Ub(a b c:D)(h:J):R Db [a,b,c] h=IU a b c h:=
 er F6
def JW(a b c d:D)(h:J):Option (D × J):=
 (dS tab a).bind λe=>(aB tab gh 0 e).bind λe=>(aB tab aX 1 e).bind λe=>(Y tab h dN e).bind λe=>(R yF [e,b,c,d] h).bind λb=>(dS tab a).bind λa=>(aB tab gh 0 a).bind λa=>(aB tab aX 1 a).bind λa=>((aS tab b.2 dN a b.1).bind λa=>some ((.bA:D),a)).bind λa=>some (aF [],a.2)
theorem U6(a b c d:D)(h:J):R pw [a,b,c,d] h=JW a b c d h:=
 er F7
def IM(a b:D)(h:J):Option (D × J):=
 (kV aH 11 h a).bind λa=>(e9 b).bind λb=>(some ((.ptr a.2.length 0 0:D),aG a.2 aH 11 [[.str [],.int .i64 0,.int .i64 0,.int .i64 0,.int .i64 0,.aA,.int .i64 0,.int .i64 0,.str [],.str [],.aA]])).bind λc=>(aB tab aH 1 a.1).bind λd=>(aB tab aC 4 d).bind λd=>(Y tab c.2 bU d).bind λd=>(some (.fn (.func Dc) [] [b]:D)).bind λe=>(R x4 [d,e] c.2).bind λe=>(O tab .lss U e.1 (.int .i64 1)).bind λf=>S f
  ((eD tab aH [] []).bind λf=>((aS tab e.2 aH c.1 f).bind λf=>some ((.bA:D),f)).bind λg=>(Y tab g.2 aH c.1).bind λi=>scope h g.2 (aF [i,.bool false]))
  ((Y tab e.2 U b).bind λg=>(eN tab bU true false false [d,e.1]).bind λd=>(R s4 [d] e.2).bind λd=>(aB tab aH 1 a.1).bind λe=>(aB tab aC 2 e).bind λe=>((aS tab d.2 U e g).bind λf=>some ((.bA:D),f)).bind λe=>(aB tab aH 1 a.1).bind λj=>(aB tab aC 4 j).bind λj=>((aS tab e.2 bU j d.1).bind λf=>some ((.bA:D),f)).bind λe=>dY (Y tab d.2 U b=some g)
 ((aB tab aH 1 a.1).bind λb=>(aB tab aC 9 b).bind λb=>(Y tab e.2 bQ b).bind λb=>(R rE [b] e.2).bind λb=>(aB tab aH 1 a.1).bind λd=>(aB tab aC 9 d).bind λd=>((aS tab b.2 bQ d b.1).bind λf=>some ((.bA:D),f)).bind λb=>(Y tab b.2 aH a.1).bind λa=>((aS tab b.2 aH c.1 a).bind λf=>some ((.bA:D),f)).bind λa=>(Y tab a.2 aH c.1).bind λi=>scope h a.2 (aF [i,.bool true])))
theorem T9(a b:D)(h:J):R x2 [a,b] h=IM a b h:=
 er F8
def IX(a b c:D)(h:J):Option (D × J):=
 (eD tab eO [0,1] [b,c]).bind λb=>(R Dd [a,b,.fn (.func x7) [] []] h).bind λa=>(cT 0 a.1).bind λb=>(cT 1 a.1).bind λc=>some (aF [b,c],a.2)
theorem Ug(a b c:D)(h:J):R s5 [a,b,c] h=IX a b c h:=
 er F9
def AF(a:D)(h:J):Option (D × J):=
 (O tab .eql bU a (.aA)).bind λb=>S b
  (scope h h (aF [.aA]))
  ((dL tab bU 0 [] []).bind λb=>(dB tab h bU bU b a).bind λa=>scope h a.2 (aF [a.1]))
theorem Ue(a:D)(h:J):R s4 [a] h=AF a h:=
 er Ga
def AG(a:D)(h:J):Option (D × J):=
 (O tab .eql bQ a (.aA)).bind λb=>S b
  (some (aF [.aA],h))
  ((dL tab bQ 0 [] []).bind λb=>(dB tab h bQ bQ b a).bind λa=>some (aF [a.1],a.2))
theorem Uf(a:D)(h:J):R rE [a] h=AG a h:=
 er Gb
def Bv(a b c:D)(d:List D)(e:J):Option bK:=
 (O tab .gtr U (Z 0 d) b).bind λb=>(W b true (some c)).bind λc=>(W b true (some a)).bind λf=>(W b true (some (Z 0 d))).bind λg=>(W b true (aO tab dX f g)).bind λf=>(W b true (Y tab e aC f)).bind λf=>(W b true (some a)).bind λg=>(W b true (some (Z 0 d))).bind λh=>(W b true (O tab .sub U h (.int .i64 1))).bind λh=>(W b true (aO tab dX g h)).bind λg=>(W b true (Y tab e aC g)).bind λg=>(gQ b true e (hj R c [f,g] e)).bind λc=>(W b true (O tab .lss U c.1 (.int .i64 0))).bind λe=>(cV b e (.bool false)).bind λb=>S b
  ((O tab .sub U (Z 0 d) (.int .i64 1)).bind λe=>(O tab .sub U (Z 0 d) (.int .i64 1)).bind λf=>(aO tab dX a f).bind λf=>(Y tab c.2 aC f).bind λf=>(aO tab dX a (Z 0 d)).bind λg=>(Y tab c.2 aC g).bind λg=>(aO tab dX a (Z 0 d)).bind λh=>((aS tab c.2 aC h f).bind λf=>some ((.bA:D),f)).bind λh=>(aO tab dX a e).bind λa=>((aS tab h.2 aC a g).bind λf=>some ((.bA:D),f)).bind λa=>(O tab .sub U (Z 0 d) (.int .i64 1)).bind λe=>some (.aQ,[e,b],a.2))
  (some ((.ext 2),[(Z 0 d),b],c.2))
def Bu(a b c d:D)(ds:List D)(e:J):Option bK:=
 (O tab .lss U (Z 0 ds) c).bind λc=>S c
  (((cA (Bv a b d) [(Z 0 ds),(Z 3 ds)] e).bind λa=>some ((bX 2 a.1),[(Z 0 a.2.1),(Z 1 a.2.1)],a.2.2)).bind λa=>cI (bX 1 a.1) ((O tab .add U (Z 0 ds) (.int .i64 1)).bind λb=>some (.aQ,[b,(Z 0 a.2.1),c,(Z 1 a.2.1)],a.2.2)) λb=>some (b,[(Z 0 ds),(Z 0 a.2.1),c,(Z 1 a.2.1)],a.2.2))
  (some ((.ext 0),[(Z 0 ds),(Z 1 ds),c,(Z 3 ds)],e))
def Bt(a b c d:D)(h:J):Option (D × J):=
 (O tab .add U b (.int .i64 1)).bind λe=>((cA (Bu a b c d) [e,.any,.any,.any] h).bind λa=>some ((bX 0 a.1),[(Z 0 a.2.1),(Z 1 a.2.1),(Z 2 a.2.1),(Z 3 a.2.1)],a.2.2)).bind λa=>dC a.1 (some (aF [],a.2.2))
theorem Np(a b c d:D)(h:J):R tg [a,b,c,d] h=Bt a b c d h:=
 er Gc
def wY(a b c:D)(ds:List D)(d:J):Option bK:=
 (O tab .lss U (Z 0 ds) (Z 1 ds)).bind λe=>S e
  ((O tab .add U (Z 0 ds) (Z 1 ds)).bind λf=>(dT tab U hD f).bind λf=>(O tab .shr hD f (.int .u64 1)).bind λf=>(dT tab hD U f).bind λf=>(O tab .sub U c f).bind λc=>(aO tab dX a c).bind λc=>(Y tab d aC c).bind λc=>(aO tab dX a f).bind λa=>(Y tab d aC a).bind λa=>(hj R b [c,a] d).bind λa=>(O tab .lss U a.1 (.int .i64 0)).bind λb=>(fS .not b).bind λb=>(S b
  ((O tab .add U f (.int .i64 1)).bind λc=>some (.aQ,[c,(Z 1 ds)],a.2))
  (some (.aQ,[(Z 0 ds),f],a.2))).bind λa=>some ((bX 9 a.1),[(Z 0 a.2.1),(Z 1 a.2.1),f,e,b],a.2.2))
  (some ((.ext 8),[(Z 0 ds),(Z 1 ds),(Z 2 ds),e,(Z 4 ds)],d))
def uw(a b c d e:D)(f:J):Option (D × J):=
  (O tab .add U b d).bind λg=>(dT tab U hD g).bind λg=>(O tab .shr hD g (.int .u64 1)).bind λg=>(dT tab hD U g).bind λg=>(O tab .add U g c).bind λh=>(O tab .gtr U c g).bind λi=>(S i
   ((O tab .sub U h d).bind λi=>some (.aQ,[i,g],f))
   (some (.aQ,[b,c],f))).bind λf=>cI f.1 ((O tab .sub U h (.int .i64 1)).bind λi=>((cA (wY a e i) [(Z 0 f.2.1),(Z 1 f.2.1),.any,.any,.any] f.2.2).bind λi=>some ((bX 8 i.1),[(Z 0 i.2.1),(Z 1 i.2.1),(Z 2 i.2.1),(Z 3 i.2.1),(Z 4 i.2.1)],i.2.2)).bind λi=>cI i.1 ((O tab .sub U h (Z 0 i.2.1)).bind λh=>(O tab .lss U (Z 0 i.2.1) c).bind λj=>(W j true (some c)).bind λk=>(W j true (some h)).bind λl=>(W j true (O tab .lss U k l)).bind λk=>(cV j k (.bool false)).bind λj=>(S j
   ((R DK [a,(Z 0 i.2.1),c,h,e] i.2.2).bind λc=>some (.aQ,([]:List D),c.2))
   (some (.aQ,([]:List D),i.2.2))).bind λc=>cI c.1 ((O tab .lss U b (Z 0 i.2.1)).bind λj=>(W j true (some (Z 0 i.2.1))).bind λk=>(W j true (some g)).bind λl=>(W j true (O tab .lss U k l)).bind λk=>(cV j k (.bool false)).bind λj=>(S j
   ((R qz [a,b,(Z 0 i.2.1),g,e] c.2.2).bind λb=>some (.aQ,([]:List D),b.2))
   (some (.aQ,([]:List D),c.2.2))).bind λb=>cI b.1 ((O tab .lss U g h).bind λj=>(W j true (some h)).bind λk=>(W j true (some d)).bind λl=>(W j true (O tab .lss U k l)).bind λk=>(cV j k (.bool false)).bind λj=>(S j
   ((R qz [a,g,h,d,e] b.2.2).bind λa=>some (.aQ,([]:List D),a.2))
   (some (.aQ,([]:List D),b.2.2))).bind λa=>dC a.1 (some (aF [],a.2.2))) λa=>dC a (some (aF [],b.2.2))) λa=>dC a (some (aF [],c.2.2))) λa=>dC a (some (aF [],i.2.2))) λa=>dC a (some (aF [],f.2.2))
def Bx(a b c:D)(d:List D)(e:J):Option bK:=
 (O tab .lss U (Z 0 d) (Z 1 d)).bind λf=>S f
  ((O tab .add U (Z 0 d) (Z 1 d)).bind λg=>(dT tab U hD g).bind λg=>(O tab .shr hD g (.int .u64 1)).bind λg=>(dT tab hD U g).bind λg=>(aO tab dX a b).bind λb=>(Y tab e aC b).bind λb=>(aO tab dX a g).bind λa=>(Y tab e aC a).bind λa=>(hj R c [b,a] e).bind λa=>(O tab .lss U a.1 (.int .i64 0)).bind λb=>(fS .not b).bind λb=>(S b
  ((O tab .add U g (.int .i64 1)).bind λc=>some (.aQ,[c,(Z 1 d)],a.2))
  (some (.aQ,[(Z 0 d),g],a.2))).bind λa=>some ((bX 5 a.1),[(Z 0 a.2.1),(Z 1 a.2.1),g,f,b],a.2.2))
  (some ((.ext 4),[(Z 0 d),(Z 1 d),(Z 2 d),f,(Z 4 d)],e))
def Bz(a:D)(b:bK)(c:List D)(d:J):Option bK:=
 (O tab .gtr U (Z 0 c) (Z 0 b.2.1)).bind λb=>S b
  ((O tab .sub U (Z 0 c) (.int .i64 1)).bind λe=>(O tab .sub U (Z 0 c) (.int .i64 1)).bind λf=>(aO tab dX a f).bind λf=>(Y tab d aC f).bind λf=>(aO tab dX a (Z 0 c)).bind λg=>(Y tab d aC g).bind λg=>(aO tab dX a (Z 0 c)).bind λh=>((aS tab d aC h f).bind λf=>some ((.bA:D),f)).bind λh=>(aO tab dX a e).bind λa=>((aS tab h.2 aC a g).bind λf=>some ((.bA:D),f)).bind λa=>(O tab .sub U (Z 0 c) (.int .i64 1)).bind λe=>some (.aQ,[e,b],a.2))
  (some ((.ext 6),[(Z 0 c),b],d))
def uv(a b c d e:D)(f:J):Option (D × J):=
  (O tab .sub U d c).bind λg=>(O tab .eql U g (.int .i64 1)).bind λg=>S g
   (((cA (Bx a c e) [b,c,.any,.any,.any] f).bind λg=>some ((bX 4 g.1),[(Z 0 g.2.1),(Z 1 g.2.1),(Z 2 g.2.1),(Z 3 g.2.1),(Z 4 g.2.1)],g.2.2)).bind λg=>cI g.1 (((cA (Bz a g) [c,.any] g.2.2).bind λh=>some ((bX 6 h.1),[(Z 0 h.2.1),(Z 1 h.2.1)],h.2.2)).bind λh=>cI h.1 (some (aF [],h.2.2)) λi=>cI i (uw a b c d e h.2.2) λi=>dC i (some (aF [],h.2.2))) λh=>cI h (uw a b c d e g.2.2) λh=>dC h (some (aF [],g.2.2)))
   (uw a b c d e f)
def BA(a b c:D)(d:List D)(e:J):Option bK:=
 (O tab .lss U (Z 0 d) (Z 1 d)).bind λf=>S f
  ((O tab .add U (Z 0 d) (Z 1 d)).bind λg=>(dT tab U hD g).bind λg=>(O tab .shr hD g (.int .u64 1)).bind λg=>(dT tab hD U g).bind λg=>(aO tab dX a g).bind λh=>(Y tab e aC h).bind λh=>(aO tab dX a b).bind λa=>(Y tab e aC a).bind λa=>(hj R c [h,a] e).bind λa=>(O tab .lss U a.1 (.int .i64 0)).bind λb=>(S b
  ((O tab .add U g (.int .i64 1)).bind λc=>some (.aQ,[c,(Z 1 d)],a.2))
  (some (.aQ,[(Z 0 d),g],a.2))).bind λa=>some ((bX 1 a.1),[(Z 0 a.2.1),(Z 1 a.2.1),g,f,b],a.2.2))
  (some ((.ext 0),[(Z 0 d),(Z 1 d),(Z 2 d),f,(Z 4 d)],e))
def BB(a:D)(b:bK)(c:List D)(d:J):Option bK:=
 (O tab .sub U (Z 0 b.2.1) (.int .i64 1)).bind λb=>(O tab .lss U (Z 0 c) b).bind λb=>S b
  ((O tab .add U (Z 0 c) (.int .i64 1)).bind λe=>(O tab .add U (Z 0 c) (.int .i64 1)).bind λf=>(aO tab dX a f).bind λf=>(Y tab d aC f).bind λf=>(aO tab dX a (Z 0 c)).bind λg=>(Y tab d aC g).bind λg=>(aO tab dX a (Z 0 c)).bind λh=>((aS tab d aC h f).bind λf=>some ((.bA:D),f)).bind λh=>(aO tab dX a e).bind λa=>((aS tab h.2 aC a g).bind λf=>some ((.bA:D),f)).bind λa=>(O tab .add U (Z 0 c) (.int .i64 1)).bind λe=>some (.aQ,[e,b],a.2))
  (some ((.ext 2),[(Z 0 c),b],d))
def wX(a b c d e:D)(h:J):Option (D × J):=
 (O tab .sub U c b).bind λf=>(O tab .eql U f (.int .i64 1)).bind λf=>S f
  (((cA (BA a b e) [c,d,.any,.any,.any] h).bind λf=>some ((bX 0 f.1),[(Z 0 f.2.1),(Z 1 f.2.1),(Z 2 f.2.1),(Z 3 f.2.1),(Z 4 f.2.1)],f.2.2)).bind λf=>cI f.1 (((cA (BB a f) [b,.any] f.2.2).bind λg=>some ((bX 2 g.1),[(Z 0 g.2.1),(Z 1 g.2.1)],g.2.2)).bind λg=>cI g.1 (some (aF [],g.2.2)) λi=>cI i (uv a b c d e g.2.2) λi=>dC i (some (aF [],g.2.2))) λg=>cI g (uv a b c d e f.2.2) λg=>dC g (some (aF [],f.2.2)))
  (uv a b c d e h)
theorem CT(a b c d e:D)(h:J):R qz [a,b,c,d,e] h=wX a b c d e h:=
 er Gd
def Lr(a:D)(h:J):Option (D × J):=
 (O tab .neq U a a).bind λa=>some (aF [a],h)
theorem V5(a:D)(h:J):R yN [a] h=Lr a h:=
 er Ge
def Km(a:D)(b:D × J)(ds:List D)(c:J):Option bK:=
 (O tab .lss U (Z 1 ds) a).bind λa=>S a
  ((O tab .shl eG (Z 0 ds) (.int .u64 8)).bind λd=>(aB tab bI 0 b.1).bind λe=>(Y tab c aP e).bind λe=>(aB tab bI 1 b.1).bind λb=>(Y tab c U b).bind λb=>(O tab .add U b (Z 1 ds)).bind λb=>(aO tab aP e b).bind λb=>(Y tab c cD b).bind λb=>(dT tab cD eG b).bind λb=>(O tab .or eG d b).bind λb=>(O tab .add U (Z 1 ds) (.int .i64 1)).bind λd=>some (.aQ,[b,d,a],c))
  (some ((.ext 0),[(Z 0 ds),(Z 1 ds),a],c))
def Kl(a b:D)(h:J):Option (D × J):=
 (kV bI 3 h a).bind λa=>(some ((.ptr a.2.length 0 0:D),aG a.2 bI 3 [[.aA,.int .i64 0,.bool false]])).bind λc=>(aB tab bI 2 a.1).bind λd=>(Y tab c.2 iZ d).bind λd=>(fS .not d).bind λd=>(W d false (aB tab bI 0 a.1)).bind λe=>(W d false (Y tab c.2 aP e)).bind λe=>(W d false (bC tab aP e)).bind λe=>(W d false (aB tab bI 1 a.1)).bind λf=>(W d false (Y tab c.2 U f)).bind λf=>(W d false (O tab .sub U e f)).bind λe=>(W d false (some b)).bind λf=>(W d false (O tab .lss U e f)).bind λe=>(cV d (.bool true) e).bind λd=>S d
  ((aB tab bI 2 a.1).bind λd=>((aS tab c.2 iZ d (.bool false)).bind λd=>some ((.bA:D),d)).bind λe=>(Y tab e.2 bI a.1).bind λf=>((aS tab e.2 bI c.1 f).bind λd=>some ((.bA:D),d)).bind λe=>(Y tab e.2 bI c.1).bind λf=>scope h e.2 (aF [f,.int .u64 0]))
  (((cA (Km b a) [.int .u64 0,.int .i64 0,.any] c.2).bind λe=>some ((bX 0 e.1),[(Z 0 e.2.1),(Z 1 e.2.1),(Z 2 e.2.1)],e.2.2)).bind λe=>cI e.1 ((aB tab bI 1 a.1).bind λg=>(Y tab e.2.2 U g).bind λg=>(O tab .add U g b).bind λb=>(aB tab bI 1 a.1).bind λg=>((aS tab e.2.2 U g b).bind λd=>some ((.bA:D),d)).bind λb=>(Y tab b.2 bI a.1).bind λa=>((aS tab b.2 bI c.1 a).bind λd=>some ((.bA:D),d)).bind λa=>(Y tab a.2 bI c.1).bind λf=>scope h a.2 (aF [f,(Z 0 e.2.1)])) λa=>dC a ((Y tab e.2.2 bI c.1).bind λf=>scope h e.2.2 (aF [f,.int .u64 0])))
theorem Vp(a b:D)(h:J):R lD [a,b] h=Kl a b h:=
 er Gf
def Ka(a:D)(ds:List D)(b:J):Option bK:=
 (bC tab aP a).bind λc=>(O tab .lss U (Z 1 ds) c).bind λc=>S c
  ((O tab .mul eG (Z 0 ds) (.int .u64 31)).bind λd=>(aO tab aP a (Z 1 ds)).bind λa=>(Y tab b cD a).bind λa=>(dT tab cD eG a).bind λa=>(O tab .add eG d a).bind λa=>(O tab .rem eG a (.int .u64 4294967291)).bind λa=>(O tab .add U (Z 1 ds) (.int .i64 1)).bind λd=>some (.aQ,[a,d,c],b))
  (some ((.ext 0),[(Z 0 ds),(Z 1 ds),c],b))
def J9(a:D)(h:J):Option (D × J):=
 ((cA (Ka a) [.int .u64 1,.int .i64 0,.any] h).bind λa=>some ((bX 0 a.1),[(Z 0 a.2.1),(Z 1 a.2.1),(Z 2 a.2.1)],a.2.2)).bind λa=>cI a.1 (some (aF [(Z 0 a.2.1)],a.2.2)) λb=>dC b (some (aF [.int .u64 0],a.2.2))
theorem Vg(a:D)(h:J):R vk [a] h=J9 a h:=
 er Gg
def Kn(a:D)(h:J):Option (D × J):=
 (kV bI 3 h a).bind λa=>(some ((.ptr a.2.length 0 0:D),aG a.2 bI 3 [[.aA,.int .i64 0,.bool false]])).bind λb=>(Y tab b.2 bI a.1).bind λc=>(R lD [c,.int .i64 4] b.2).bind λc=>(cT 0 c.1).bind λd=>(cT 1 c.1).bind λe=>((aS tab c.2 bI a.1 d).bind λc=>some ((.bA:D),c)).bind λd=>(aB tab bI 2 a.1).bind λf=>(Y tab d.2 iZ f).bind λf=>(fS .not f).bind λf=>(W f false (some e)).bind λg=>(W f false (aB tab bI 0 a.1)).bind λi=>(W f false (Y tab d.2 aP i)).bind λi=>(W f false (bC tab aP i)).bind λi=>(W f false (aB tab bI 1 a.1)).bind λj=>(W f false (Y tab d.2 U j)).bind λj=>(W f false (O tab .sub U i j)).bind λi=>(W f false (dT tab U eG i)).bind λi=>(W f false (O tab .gtr eG g i)).bind λg=>(cV f (.bool true) g).bind λf=>S f
  ((aB tab bI 2 a.1).bind λf=>((aS tab d.2 iZ f (.bool false)).bind λc=>some ((.bA:D),c)).bind λf=>(Y tab f.2 bI a.1).bind λg=>((aS tab f.2 bI b.1 g).bind λc=>some ((.bA:D),c)).bind λf=>(Y tab f.2 bI b.1).bind λg=>scope h f.2 (aF [g,.str []]))
  ((aB tab bI 0 a.1).bind λf=>(Y tab d.2 aP f).bind λf=>(aB tab bI 1 a.1).bind λi=>(Y tab d.2 U i).bind λi=>(aB tab bI 1 a.1).bind λj=>(Y tab d.2 U j).bind λj=>(dT tab eG U e).bind λk=>(O tab .add U j k).bind λj=>(eN tab aP true true false [f,i,j]).bind λf=>(qm d.2 f).bind λf=>(aB tab bI 1 a.1).bind λi=>(Y tab d.2 U i).bind λi=>(dT tab eG U e).bind λe=>(O tab .add U i e).bind λe=>(aB tab bI 1 a.1).bind λi=>((aS tab d.2 U i e).bind λc=>some ((.bA:D),c)).bind λd=>(Y tab d.2 bI a.1).bind λa=>((aS tab d.2 bI b.1 a).bind λc=>some ((.bA:D),c)).bind λa=>(Y tab a.2 bI b.1).bind λg=>scope h a.2 (aF [g,f]))
theorem Vq(a:D)(h:J):R nK [a] h=Kn a h:=
 er Gi
def Ko(a:D)(h:J):Option (D × J):=
 (kV bI 3 h a).bind λa=>(some ((.ptr a.2.length 0 0:D),aG a.2 bI 3 [[.aA,.int .i64 0,.bool false]])).bind λb=>(Y tab b.2 bI a.1).bind λc=>(R lD [c,.int .i64 8] b.2).bind λc=>(cT 0 c.1).bind λd=>(cT 1 c.1).bind λe=>((aS tab c.2 bI a.1 d).bind λc=>some ((.bA:D),c)).bind λd=>(Y tab d.2 bI a.1).bind λa=>(dT tab eG U e).bind λe=>((aS tab d.2 bI b.1 a).bind λc=>some ((.bA:D),c)).bind λa=>(Y tab a.2 bI b.1).bind λb=>scope h a.2 (aF [b,e])
theorem Vr(a:D)(h:J):R mj [a] h=Ko a h:=
 er Gj
def Kq(a:D × J)(b:D)(ds:List D)(c:J):Option bK:=
 (aB tab bI 2 a.1).bind λd=>(Y tab c iZ d).bind λd=>(W d true (some (Z 1 ds))).bind λe=>(W d true (some (b:D))).bind λb=>(W d true (O tab .lss eG e b)).bind λb=>(cV d b (.bool false)).bind λb=>S b
  ((some ((.ptr c.length 0 0:D),aG c dD 3 [[.int .i64 0,.int .i64 0,.str []]])).bind λd=>(Y tab d.2 bI a.1).bind λe=>(R mj [e] d.2).bind λe=>(cT 0 e.1).bind λf=>(cT 1 e.1).bind λg=>((aS tab e.2 bI a.1 f).bind λe=>some ((.bA:D),e)).bind λf=>(aB tab dD 0 d.1).bind λh=>((aS tab f.2 U h g).bind λe=>some ((.bA:D),e)).bind λf=>(Y tab f.2 bI a.1).bind λg=>(R mj [g] f.2).bind λf=>(cT 0 f.1).bind λg=>(cT 1 f.1).bind λh=>((aS tab f.2 bI a.1 g).bind λe=>some ((.bA:D),e)).bind λf=>(aB tab dD 1 d.1).bind λg=>((aS tab f.2 U g h).bind λe=>some ((.bA:D),e)).bind λf=>(Y tab f.2 bI a.1).bind λg=>(R nK [g] f.2).bind λf=>(cT 0 f.1).bind λg=>(cT 1 f.1).bind λh=>((aS tab f.2 bI a.1 g).bind λe=>some ((.bA:D),e)).bind λa=>(aB tab dD 2 d.1).bind λf=>((aS tab a.2 bH f h).bind λe=>some ((.bA:D),e)).bind λa=>(Y tab a.2 dD d.1).bind λe=>(dL tab bU 1 [0] [e]).bind λe=>(dB tab a.2 bU bU (Z 0 ds) e).bind λa=>(O tab .add eG (Z 1 ds) (.int .u64 1)).bind λe=>some (.aQ,[a.1,e,d.1,b],a.2))
  (some ((.ext 0),[(Z 0 ds),(Z 1 ds),(Z 2 ds),b],c))
def Kp(a:D)(h:J):Option (D × J):=
 (kV bI 3 h a).bind λa=>(some ((.ptr a.2.length 0 0:D),aG a.2 bI 3 [[.aA,.int .i64 0,.bool false]])).bind λb=>(Y tab b.2 bI a.1).bind λc=>(R lD [c,.int .i64 4] b.2).bind λc=>(cT 0 c.1).bind λd=>(cT 1 c.1).bind λe=>((aS tab c.2 bI a.1 d).bind λc=>some ((.bA:D),c)).bind λd=>((cA (Kq a e) [.aA,.int .u64 0,.any,.any] d.2).bind λd=>some ((bX 0 d.1),[(Z 0 d.2.1),(Z 1 d.2.1),(Z 2 d.2.1),(Z 3 d.2.1)],d.2.2)).bind λd=>cI d.1 ((Y tab d.2.2 bI a.1).bind λa=>((aS tab d.2.2 bI b.1 a).bind λc=>some ((.bA:D),c)).bind λa=>(Y tab a.2 bI b.1).bind λc=>scope h a.2 (aF [c,(Z 0 d.2.1)])) λa=>dC a ((Y tab d.2.2 bI b.1).bind λc=>scope h d.2.2 (aF [c,.aA]))
theorem Vs(a:D)(h:J):R vp [a] h=Kp a h:=
 er Gk
def Kt(a:D × J)(b:D)(ds:List D)(c:J):Option bK:=
 (aB tab bI 2 a.1).bind λd=>(Y tab c iZ d).bind λd=>(W d true (some (Z 1 ds))).bind λe=>(W d true (some (b:D))).bind λb=>(W d true (O tab .lss eG e b)).bind λb=>(cV d b (.bool false)).bind λb=>S b
  ((some ((.ptr c.length 0 0:D),aG c bE 2 [[.str [],.str []]])).bind λd=>(Y tab d.2 bI a.1).bind λe=>(R nK [e] d.2).bind λe=>(cT 0 e.1).bind λf=>(cT 1 e.1).bind λg=>((aS tab e.2 bI a.1 f).bind λe=>some ((.bA:D),e)).bind λf=>(aB tab bE 0 d.1).bind λh=>((aS tab f.2 bH h g).bind λe=>some ((.bA:D),e)).bind λf=>(Y tab f.2 bI a.1).bind λg=>(R nK [g] f.2).bind λf=>(cT 0 f.1).bind λg=>(cT 1 f.1).bind λh=>((aS tab f.2 bI a.1 g).bind λe=>some ((.bA:D),e)).bind λa=>(aB tab bE 1 d.1).bind λf=>((aS tab a.2 bH f h).bind λe=>some ((.bA:D),e)).bind λa=>(Y tab a.2 bE d.1).bind λe=>(dL tab bQ 1 [0] [e]).bind λe=>(dB tab a.2 bQ bQ (Z 0 ds) e).bind λa=>(O tab .add eG (Z 1 ds) (.int .u64 1)).bind λe=>some (.aQ,[a.1,e,d.1,b],a.2))
  (some ((.ext 0),[(Z 0 ds),(Z 1 ds),(Z 2 ds),b],c))
def Kr(a:D)(h:J):Option (D × J):=
 (kV bI 3 h a).bind λa=>(some ((.ptr a.2.length 0 0:D),aG a.2 bI 3 [[.aA,.int .i64 0,.bool false]])).bind λb=>(Y tab b.2 bI a.1).bind λc=>(R lD [c,.int .i64 4] b.2).bind λc=>(cT 0 c.1).bind λd=>(cT 1 c.1).bind λe=>((aS tab c.2 bI a.1 d).bind λc=>some ((.bA:D),c)).bind λd=>((cA (Kt a e) [.aA,.int .u64 0,.any,.any] d.2).bind λd=>some ((bX 0 d.1),[(Z 0 d.2.1),(Z 1 d.2.1),(Z 2 d.2.1),(Z 3 d.2.1)],d.2.2)).bind λd=>cI d.1 ((Y tab d.2.2 bI a.1).bind λa=>((aS tab d.2.2 bI b.1 a).bind λc=>some ((.bA:D),c)).bind λa=>(Y tab a.2 bI b.1).bind λc=>scope h a.2 (aF [c,(Z 0 d.2.1)])) λa=>dC a ((Y tab d.2.2 bI b.1).bind λc=>scope h d.2.2 (aF [c,.aA]))
theorem Vt(a:D)(h:J):R vq [a] h=Kr a h:=
 er Gl
def wK(a:D)(ds:List D)(b:J):Option bK:=
 (aB tab aC 4 a).bind λc=>(Y tab b bU c).bind λc=>(bC tab bU c).bind λc=>(O tab .lss U (Z 1 ds) c).bind λc=>S c
  ((aB tab aC 4 a).bind λa=>(Y tab b bU a).bind λa=>(aO tab bU a (Z 1 ds)).bind λa=>(aB tab dD 2 a).bind λa=>(Y tab b bH a).bind λa=>(O tab .neq bH a (.str [])).bind λa=>S a
  (some (.ret,[.int .i64 19,(Z 1 ds),c,a],b))
  ((O tab .add U (Z 1 ds) (.int .i64 1)).bind λd=>some (.aQ,[(Z 0 ds),d,c,a],b)))
  (some ((.ext 0),[(Z 0 ds),(Z 1 ds),c,(Z 3 ds)],b))
def AE(a:D)(h:J):Option (D × J):=
 (e9 a).bind λa=>(aB tab aH 0 a).bind λb=>(Y tab h bH b).bind λb=>(O tab .eql bH b (.str [])).bind λb=>S b
  ((aB tab aH 1 a).bind λb=>(Y tab h aC b).bind λb=>(R x5 [b] h).bind λb=>some (aF [b.1],b.2))
  ((aB tab aH 0 a).bind λb=>(Y tab h bH b).bind λb=>(bC tab bH b).bind λb=>(O tab .gtr U b (.int .i64 32)).bind λb=>S b
  (some (aF [.int .i64 3],h))
  ((aB tab aH 1 a).bind λa=>(Y tab h aC a).bind λa=>(gM 10 a).bind λa=>(Y tab h aC a).bind λb=>(R u5 [b] h).bind λb=>(O tab .neq hz b.1 (.int .i64 0)).bind λc=>S c
  (some (aF [b.1],b.2))
  ((Y tab b.2 aC a).bind λc=>(R u6 [c,.int .i64 20000] b.2).bind λb=>(O tab .neq hz b.1 (.int .i64 0)).bind λc=>(W c true (some b.1)).bind λd=>(W c true (O tab .neq hz d (.int .i64 3))).bind λd=>(cV c d (.bool false)).bind λc=>S c
  (some (aF [b.1],b.2))
  ((aB tab aC 5 a).bind λc=>(Y tab b.2 U c).bind λc=>(O tab .neq U c (.int .i64 0)).bind λc=>(W c false (aB tab aC 6 a)).bind λd=>(W c false (Y tab b.2 U d)).bind λd=>(W c false (O tab .neq U d (.int .i64 0))).bind λd=>(cV c (.bool true) d).bind λc=>(W c false (aB tab aC 7 a)).bind λd=>(W c false (Y tab b.2 bH d)).bind λd=>(W c false (O tab .neq bH d (.str []))).bind λd=>(cV c (.bool true) d).bind λc=>(W c false (aB tab aC 8 a)).bind λd=>(W c false (Y tab b.2 bH d)).bind λd=>(W c false (O tab .neq bH d (.str []))).bind λd=>(cV c (.bool true) d).bind λc=>(W c false (aB tab aC 9 a)).bind λd=>(W c false (Y tab b.2 bQ d)).bind λd=>(W c false (bC tab bQ d)).bind λd=>(W c false (O tab .neq U d (.int .i64 0))).bind λd=>(cV c (.bool true) d).bind λc=>S c
  (some (aF [.int .i64 19],b.2))
  (((cA (wK a) [.int .i64 0,.int .i64 0,.any,.any] b.2).bind λa=>some ((bX 0 a.1),[(Z 0 a.2.1),(Z 1 a.2.1),(Z 2 a.2.1),(Z 3 a.2.1)],a.2.2)).bind λa=>cI a.1 (some (aF [.int .i64 0],a.2.2)) λb=>dC b (some (aF [(Z 0 a.2.1)],a.2.2)))))))
theorem M5(a:D)(h:J):R qu [a] h=AE a h:=
 er Gm
def p7(a b c:D)(ds:List D)(d:J):Option bK:=
 (bC tab dV a).bind λe=>(O tab .lss U (Z 0 ds) e).bind λe=>(W e true (some a)).bind λf=>(W e true (some (Z 0 ds))).bind λg=>(W e true (aO tab dV f g)).bind λf=>(W e true (aB tab eO 0 f)).bind λf=>(W e true (Y tab d U f)).bind λf=>(W e true (some b)).bind λg=>(W e true (O tab .lss U f g)).bind λf=>(W e true (some f)).bind λf=>(W f false (some a)).bind λg=>(W f false (some (Z 0 ds))).bind λh=>(W f false (aO tab dV g h)).bind λg=>(W f false (aB tab eO 0 g)).bind λg=>(W f false (Y tab d U g)).bind λg=>(W f false (some b)).bind λb=>(W f false (O tab .eql U g b)).bind λb=>(W f false (some b)).bind λb=>(W b true (some a)).bind λa=>(W b true (some (Z 0 ds))).bind λg=>(W b true (aO tab dV a g)).bind λa=>(W b true (aB tab eO 1 a)).bind λa=>(W b true (Y tab d U a)).bind λa=>(W b true (some c)).bind λc=>(W b true (O tab .lss U a c)).bind λa=>(W f false (cV b a (.bool false))).bind λa=>(W e true (cV f (.bool true) a)).bind λa=>(cV e a (.bool false)).bind λa=>S a
  ((O tab .add U (Z 0 ds) (.int .i64 1)).bind λb=>some (.aQ,[b,a],d))
  (some ((.ext 0),[(Z 0 ds),a],d))
def JK(a b c:D)(h:J):Option (D × J):=
 ((cA (p7 a b c) [.int .i64 0,.any] h).bind λd=>some ((bX 0 d.1),[(Z 0 d.2.1),(Z 1 d.2.1)],d.2.2)).bind λd=>cI d.1 ((bC tab dV a).bind λe=>(O tab .lss U (Z 0 d.2.1) e).bind λe=>(W e true (some a)).bind λf=>(W e true (some (Z 0 d.2.1))).bind λg=>(W e true (aO tab dV f g)).bind λf=>(W e true (aB tab eO 0 f)).bind λf=>(W e true (Y tab d.2.2 U f)).bind λf=>(W e true (some b)).bind λb=>(W e true (O tab .eql U f b)).bind λb=>(cV e b (.bool false)).bind λb=>(W b true (some a)).bind λa=>(W b true (some (Z 0 d.2.1))).bind λe=>(W b true (aO tab dV a e)).bind λa=>(W b true (aB tab eO 1 a)).bind λa=>(W b true (Y tab d.2.2 U a)).bind λa=>(W b true (some c)).bind λc=>(W b true (O tab .eql U a c)).bind λa=>(cV b a (.bool false)).bind λa=>some (aF [(Z 0 d.2.1),a],d.2.2)) λa=>dC a (some (aF [.int .i64 0,.bool false],d.2.2))
theorem UX(a b c:D)(h:J):R yj [a,b,c] h=JK a b c h:=
 er Gn
def Lj(a b:D)(ds:List D)(c:J):Option bK:=
 (bC tab bU a).bind λd=>(O tab .lss U (Z 1 ds) d).bind λd=>S d
  ((aO tab bU a (Z 1 ds)).bind λa=>(Y tab c dD a).bind λa=>(aO tab bU b (Z 1 ds)).bind λb=>(Y tab c dD b).bind λb=>(O tab .neq dD a b).bind λa=>S a
  (some (.ret,[.bool false,(Z 1 ds),d,a],c))
  ((O tab .add U (Z 1 ds) (.int .i64 1)).bind λb=>some (.aQ,[(Z 0 ds),b,d,a],c)))
  (some ((.ext 0),[(Z 0 ds),(Z 1 ds),d,(Z 3 ds)],c))
def Li(a b:D)(h:J):Option (D × J):=
 (bC tab bU a).bind λc=>(bC tab bU b).bind λd=>(O tab .neq U c d).bind λc=>S c
  (some (aF [.bool false],h))
  (((cA (Lj a b) [.bool false,.int .i64 0,.any,.any] h).bind λa=>some ((bX 0 a.1),[(Z 0 a.2.1),(Z 1 a.2.1),(Z 2 a.2.1),(Z 3 a.2.1)],a.2.2)).bind λa=>cI a.1 (some (aF [.bool true],a.2.2)) λb=>dC b (some (aF [(Z 0 a.2.1)],a.2.2)))
theorem V0(a b:D)(h:J):R DU [a,b] h=Li a b h:=
 er Gp
def Ll(a b:D)(ds:List D)(c:J):Option bK:=
 (bC tab bQ a).bind λd=>(O tab .lss U (Z 1 ds) d).bind λd=>S d
  ((aO tab bQ a (Z 1 ds)).bind λa=>(Y tab c bE a).bind λa=>(aO tab bQ b (Z 1 ds)).bind λb=>(Y tab c bE b).bind λb=>(O tab .neq bE a b).bind λa=>S a
  (some (.ret,[.bool false,(Z 1 ds),d,a],c))
  ((O tab .add U (Z 1 ds) (.int .i64 1)).bind λb=>some (.aQ,[(Z 0 ds),b,d,a],c)))
  (some ((.ext 0),[(Z 0 ds),(Z 1 ds),d,(Z 3 ds)],c))
def Lk(a b:D)(h:J):Option (D × J):=
 (bC tab bQ a).bind λc=>(bC tab bQ b).bind λd=>(O tab .neq U c d).bind λc=>S c
  (some (aF [.bool false],h))
  (((cA (Ll a b) [.bool false,.int .i64 0,.any,.any] h).bind λa=>some ((bX 0 a.1),[(Z 0 a.2.1),(Z 1 a.2.1),(Z 2 a.2.1),(Z 3 a.2.1)],a.2.2)).bind λa=>cI a.1 (some (aF [.bool true],a.2.2)) λb=>dC b (some (aF [(Z 0 a.2.1)],a.2.2)))
theorem V1(a b:D)(h:J):R yK [a,b] h=Lk a b h:=
 er Gq
def Ln(a:D)(ds:List D)(b:J):Option bK:=
 (O tab .gtr U (Z 1 ds) (.int .i64 0)).bind λc=>S c
  ((dL tab hF 5 [0,1,2,3,4] [.str [32],.str [32],.str [44,32],.str [61],.str []]).bind λd=>(R gP [a,.int .i64 5] b).bind λe=>(aO tab hF d e.1).bind λd=>(Y tab e.2 bH d).bind λf=>(R x9 [a] e.2).bind λa=>(O tab .add bH f a.1).bind λe=>(O tab .add bH (Z 0 ds) e).bind λe=>dY (Y tab a.2 bH d=some f)
 ((O tab .sub U (Z 1 ds) (.int .i64 1)).bind λd=>some (.aQ,[e,d,c],a.2)))
  (some ((.ext 0),[(Z 0 ds),(Z 1 ds),c],b))
def Lm(a:D)(h:J):Option (D × J):=
 (R x9 [a] h).bind λb=>(R gP [a,.int .i64 4] b.2).bind λc=>((cA (Ln a) [b.1,c.1,.any] c.2).bind λa=>some ((bX 0 a.1),[(Z 0 a.2.1),(Z 1 a.2.1),(Z 2 a.2.1)],a.2.2)).bind λa=>cI a.1 (some (aF [(Z 0 a.2.1)],a.2.2)) λb=>dC b (some (aF [.str []],a.2.2))
theorem V2(a:D)(h:J):R yL [a] h=Lm a h:=
 er Gr
def w4(a:D)(h:J):Option (D × J):=
 (R gP [a,.int .i64 4] h).bind λb=>(O tab .eql U b.1 (.int .i64 0)).bind λc=>S c
  ((R gP [a,.int .i64 40] b.2).bind λc=>(O tab .mul U c.1 (.int .i64 86400000)).bind λd=>some (aF [d],c.2))
  ((O tab .eql U b.1 (.int .i64 1)).bind λc=>S c
  ((R gP [a,.int .i64 3] b.2).bind λc=>(O tab .mul U c.1 (.int .i64 86400000)).bind λd=>(O tab .sub U (.int .i64 253402300799999) d).bind λd=>some (aF [d],c.2))
  ((R gP [a,.int .i64 60] b.2).bind λa=>(O tab .add U (.int .i64 1000) a.1).bind λb=>some (aF [b],a.2)))
theorem CV(a:D)(h:J):R yD [a] h=w4 a h:=
 er Gs
def Lo(a:D)(h:J):Option (D × J):=
 (dL tab iR 6 [0,1,2,3,4,5] [.int .i64 1,.int .i64 1,.int .i64 2,.int .i64 5,.int .i64 10,.int .i64 5040]).bind λb=>(R gP [a,.int .i64 6] h).bind λa=>(aO tab iR b a.1).bind λb=>(Y tab a.2 U b).bind λb=>some (aF [b],a.2)
theorem V3(a:D)(h:J):R yM [a] h=Lo a h:=
 er Gt
def Lq(a b:D)(ds:List D)(c:J):Option bK:=
 (bC tab hF b).bind λd=>(O tab .lss U (Z 1 ds) d).bind λd=>S d
  ((R gP [a,.int .i64 3] c).bind λe=>(O tab .eql U e.1 (.int .i64 1)).bind λf=>(S f
  ((aO tab hF b (Z 1 ds)).bind λb=>(Y tab e.2 bH b).bind λg=>(R DN [a] e.2).bind λa=>(eD tab bE [0,1] [g,a.1]).bind λh=>(dL tab bQ 1 [0] [h]).bind λh=>(dB tab a.2 bQ bQ (Z 0 ds) h).bind λh=>dY (Y tab a.2 bH b=some g)
 (some (.aQ,[h.1],h.2)))
  (some (.aQ,[(Z 0 ds)],e.2))).bind λa=>cI (bX 1 a.1) ((O tab .add U (Z 1 ds) (.int .i64 1)).bind λb=>some (.aQ,[(Z 0 a.2.1),b,d,f],a.2.2)) λb=>some (b,[(Z 0 a.2.1),(Z 1 ds),d,f],a.2.2))
  (some ((.ext 0),[(Z 0 ds),(Z 1 ds),d,(Z 3 ds)],c))
def Lp(a:D)(h:J):Option (D × J):=
 (dL tab hF 4 [0,1,2,3] [.str [99,111,100,101],.str [108,101,118,101,108],.str [109,115],.str [117,115,101,114]]).bind λb=>((cA (Lq a b) [.aA,.int .i64 0,.any,.any] h).bind λa=>some ((bX 0 a.1),[(Z 0 a.2.1),(Z 1 a.2.1),(Z 2 a.2.1),(Z 3 a.2.1)],a.2.2)).bind λa=>cI a.1 (scope h a.2.2 (aF [(Z 0 a.2.1)])) λb=>dC b (scope h a.2.2 (aF [.aA]))
theorem V4(a:D)(h:J):R vz [a] h=Lp a h:=
 er Gu
def Bf(a:D)(ds:List D)(b:J):Option bK:=
 (aB tab aC 4 a).bind λc=>(Y tab b bU c).bind λc=>(bC tab bU c).bind λc=>(O tab .lss U (Z 1 ds) c).bind λc=>S c
  ((aB tab aC 4 a).bind λd=>(Y tab b bU d).bind λd=>(aO tab bU d (Z 1 ds)).bind λd=>(aB tab dD 0 d).bind λd=>(Y tab b U d).bind λd=>(R nJ [(Z 0 ds),d] b).bind λd=>(aB tab aC 4 a).bind λe=>(Y tab d.2 bU e).bind λf=>(aO tab bU f (Z 1 ds)).bind λg=>(aB tab dD 1 g).bind λg=>(Y tab d.2 U g).bind λh=>(R nJ [d.1,h] d.2).bind λi=>(aB tab aC 4 a).bind λa=>(Y tab i.2 bU a).bind λj=>(aO tab bU j (Z 1 ds)).bind λk=>(aB tab dD 2 k).bind λk=>(Y tab i.2 bH k).bind λl=>(R px [i.1,l] i.2).bind λi=>dY (Y tab b bU e=some f)
 (dY (Y tab b U g=some h)
 (dY (Y tab b bU a=some j)
 (dY (Y tab d.2 bU a=some j)
 (dY (Y tab b bH k=some l)
 (dY (Y tab d.2 bH k=some l)
 ((O tab .add U (Z 1 ds) (.int .i64 1)).bind λa=>some (.aQ,[i.1,a,c],i.2))))))))
  (some ((.ext 0),[(Z 0 ds),(Z 1 ds),c],b))
def Bg(a:D)(b:List D)(c:J):Option bK:=
 (aB tab aC 9 a).bind λd=>(Y tab c bQ d).bind λd=>(bC tab bQ d).bind λd=>(O tab .lss U (Z 1 b) d).bind λd=>S d
  ((aB tab aC 9 a).bind λe=>(Y tab c bQ e).bind λe=>(aO tab bQ e (Z 1 b)).bind λe=>(aB tab bE 0 e).bind λe=>(Y tab c bH e).bind λe=>(R px [(Z 0 b),e] c).bind λe=>(aB tab aC 9 a).bind λa=>(Y tab e.2 bQ a).bind λf=>(aO tab bQ f (Z 1 b)).bind λg=>(aB tab bE 1 g).bind λg=>(Y tab e.2 bH g).bind λh=>(R px [e.1,h] e.2).bind λe=>dY (Y tab c bQ a=some f)
 (dY (Y tab c bH g=some h)
 ((O tab .add U (Z 1 b) (.int .i64 1)).bind λa=>some (.aQ,[e.1,a,d],e.2))))
  (some ((.ext 2),[(Z 0 b),(Z 1 b),d],c))
def J7(a:D)(h:J):Option (D × J):=
 (e9 a).bind λa=>(aB tab aH 1 a).bind λb=>(Y tab h aC b).bind λb=>(gM 10 b).bind λb=>(aB tab aH 0 a).bind λa=>(Y tab h bH a).bind λa=>(R px [.aA,a] h).bind λa=>(aB tab aC 0 b).bind λc=>(Y tab a.2 U c).bind λc=>(R nJ [a.1,c] a.2).bind λc=>(aB tab aC 1 b).bind λd=>(Y tab c.2 U d).bind λe=>(R nJ [c.1,e] c.2).bind λf=>(aB tab aC 2 b).bind λg=>(Y tab f.2 U g).bind λi=>(R nJ [f.1,i] f.2).bind λj=>(aB tab aC 3 b).bind λk=>(Y tab j.2 U k).bind λl=>(R nJ [j.1,l] j.2).bind λj=>dY (Y tab a.2 U d=some e)
 (dY (Y tab a.2 U g=some i)
 (dY (Y tab c.2 U g=some i)
 (dY (Y tab a.2 U k=some l)
 (dY (Y tab c.2 U k=some l)
 (dY (Y tab f.2 U k=some l)
 ((aB tab aC 4 b).bind λa=>(Y tab j.2 bU a).bind λa=>(bC tab bU a).bind λa=>(dT tab U eG a).bind λa=>(R mi [j.1,a,.int .i64 4] j.2).bind λa=>((cA (Bf b) [a.1,.int .i64 0,.any] a.2).bind λa=>some ((bX 0 a.1),[(Z 0 a.2.1),(Z 1 a.2.1),(Z 2 a.2.1)],a.2.2)).bind λa=>cI a.1 ((aB tab aC 5 b).bind λc=>(Y tab a.2.2 U c).bind λc=>(R nJ [(Z 0 a.2.1),c] a.2.2).bind λc=>(aB tab aC 6 b).bind λd=>(Y tab c.2 U d).bind λe=>(R nJ [c.1,e] c.2).bind λf=>(aB tab aC 7 b).bind λg=>(Y tab f.2 bH g).bind λi=>(R px [f.1,i] f.2).bind λj=>(aB tab aC 8 b).bind λk=>(Y tab j.2 bH k).bind λl=>(R px [j.1,l] j.2).bind λj=>dY (Y tab a.2.2 U d=some e)
 (dY (Y tab a.2.2 bH g=some i)
 (dY (Y tab c.2 bH g=some i)
 (dY (Y tab a.2.2 bH k=some l)
 (dY (Y tab c.2 bH k=some l)
 (dY (Y tab f.2 bH k=some l)
 ((aB tab aC 9 b).bind λc=>(Y tab j.2 bQ c).bind λc=>(bC tab bQ c).bind λc=>(dT tab U eG c).bind λc=>(R mi [j.1,c,.int .i64 4] j.2).bind λc=>((cA (Bg b) [c.1,.int .i64 0,.any] c.2).bind λb=>some ((bX 2 b.1),[(Z 0 b.2.1),(Z 1 b.2.1),(Z 2 b.2.1)],b.2.2)).bind λb=>cI b.1 (some (aF [(Z 0 b.2.1)],b.2.2)) λc=>dC c (some (aF [.aA],b.2.2))))))))) λb=>dC b (some (aF [.aA],a.2.2))))))))
theorem Ve(a:D)(h:J):R yr [a] h=J7 a h:=
 er Gv
def wS(a:D)(ds:List D)(b:J):Option bK:=
 (O tab .geq U (Z 1 ds) (.int .i64 0)).bind λc=>S c
  ((O tab .mul U (.int .i64 8) (Z 1 ds)).bind λd=>(dT tab U hD d).bind λd=>(O tab .shr eG a d).bind λa=>(dT tab eG cD a).bind λa=>(dL tab aP 1 [0] [a]).bind λa=>(dB tab b aP aP (Z 0 ds) a).bind λa=>(O tab .sub U (Z 1 ds) (.int .i64 1)).bind λd=>some (.aQ,[a.1,d,c],a.2))
  (some ((.ext 0),[(Z 0 ds),(Z 1 ds),c],b))
def J8(a b c:D)(h:J):Option (D × J):=
 (O tab .sub U c (.int .i64 1)).bind λc=>((cA (wS b) [a,c,.any] h).bind λa=>some ((bX 0 a.1),[(Z 0 a.2.1),(Z 1 a.2.1),(Z 2 a.2.1)],a.2.2)).bind λa=>cI a.1 (some (aF [(Z 0 a.2.1)],a.2.2)) λb=>dC b (some (aF [.aA],a.2.2))
theorem Vf(a b c:D)(h:J):R mi [a,b,c] h=J8 a b c h:=
 er Gx
def Jj(a:D)(h:J):Option (D × J):=
 (e9 a).bind λa=>(Y tab h aC a).bind λb=>(R ye [b] h).bind λb=>(fS .not b.1).bind λc=>(W c false (aB tab aC 5 a)).bind λd=>(W c false (Y tab b.2 U d)).bind λd=>(gQ c false b.2 (R tc [d,.int .i64 0,.int .i64 253402300799999] b.2)).bind λb=>(W c false (fS .not b.1)).bind λd=>(cV c (.bool true) d).bind λc=>S c
  (scope h b.2 (aF [.int .i64 2]))
  ((aB tab aC 6 a).bind λc=>(Y tab b.2 U c).bind λc=>(O tab .lss U c (.int .i64 1)).bind λc=>(W c false (aB tab aC 6 a)).bind λd=>(W c false (Y tab b.2 U d)).bind λd=>(W c false (O tab .rem U (.int .i64 5040) d)).bind λd=>(W c false (O tab .neq U d (.int .i64 0))).bind λd=>(cV c (.bool true) d).bind λc=>S c
  (scope h b.2 (aF [.int .i64 21]))
  ((Y tab b.2 aC a).bind λc=>(R yf [c,.int .i64 2000] b.2).bind λb=>(O tab .neq hz b.1 (.int .i64 0)).bind λc=>S c
  (scope h b.2 (aF [b.1]))
  ((aB tab aC 7 a).bind λc=>(Y tab b.2 bH c).bind λc=>(bC tab bH c).bind λc=>(O tab .gtr U c (.int .i64 32)).bind λc=>(W c false (aB tab aC 8 a)).bind λd=>(W c false (Y tab b.2 bH d)).bind λd=>(W c false (bC tab bH d)).bind λd=>(W c false (O tab .gtr U d (.int .i64 32))).bind λd=>(cV c (.bool true) d).bind λc=>S c
  (scope h b.2 (aF [.int .i64 3]))
  ((aB tab aC 9 a).bind λc=>(Y tab b.2 bQ c).bind λc=>(R vd [c] b.2).bind λb=>(cT 0 b.1).bind λc=>(cT 1 b.1).bind λd=>(O tab .neq hz d (.int .i64 0)).bind λe=>S e
  (scope h b.2 (aF [d]))
  ((aB tab aC 9 a).bind λa=>(Y tab b.2 bQ a).bind λa=>(R Dn [c,a] b.2).bind λa=>(fS .not a.1).bind λb=>S b
  (scope h a.2 (aF [.int .i64 19]))
  ((R Dp [c,.fn (.func ve) [] []] a.2).bind λa=>S a.1
  (scope h a.2 (aF [.int .i64 3]))
  (scope h a.2 (aF [.int .i64 0]))))))))
theorem UA(a:D)(h:J):R u7 [a] h=Jj a h:=
 er Gy
def Jk(a:D)(h:J):Option (D × J):=
 (e9 a).bind λa=>(aB tab aC 0 a).bind λb=>(Y tab h U b).bind λb=>(R tc [b,.int .i64 0,.int .i64 999] h).bind λb=>(W b.1 true (aB tab aC 1 a)).bind λc=>(W b.1 true (Y tab b.2 U c)).bind λc=>(gQ b.1 true b.2 (R tc [c,.int .i64 0,.int .i64 2147483646] b.2)).bind λc=>(cV b.1 c.1 (.bool false)).bind λb=>(W b true (aB tab aC 2 a)).bind λd=>(W b true (Y tab c.2 U d)).bind λd=>(W b true (O tab .geq U d (.int .i64 0))).bind λd=>(cV b d (.bool false)).bind λb=>(W b true (aB tab aC 3 a)).bind λd=>(W b true (Y tab c.2 U d)).bind λd=>(W b true (aB tab aC 2 a)).bind λe=>(W b true (Y tab c.2 U e)).bind λe=>(W b true (O tab .gtr U d e)).bind λd=>(cV b d (.bool false)).bind λb=>(W b true (aB tab aC 3 a)).bind λa=>(W b true (Y tab c.2 U a)).bind λa=>(W b true (O tab .leq U a (.int .i64 60000))).bind λa=>(cV b a (.bool false)).bind λa=>some (aF [a],c.2)
theorem UB(a:D)(h:J):R ye [a] h=Jk a h:=
 er D4
def Jm(a b c d:D)(ds:List D)(e:J):Option bK:=
 (O tab .lss U (Z 5 ds) d).bind λd=>S d
  ((aO tab bU c (Z 5 ds)).bind λc=>(Y tab e dD c).bind λc=>(some ((.ptr e.length 0 0:D),aG e dD 3 [[.int .i64 0,.int .i64 0,.str []]])).bind λf=>((aS tab f.2 dD f.1 c).bind λc=>some ((.bA:D),c)).bind λc=>(aB tab aC 4 b).bind λg=>(Y tab c.2 bU g).bind λg=>(bC tab bU g).bind λg=>(O tab .sub U g (.int .i64 1)).bind λg=>(O tab .eql U (Z 5 ds) g).bind λg=>(aB tab dD 0 f.1).bind λh=>(Y tab c.2 U h).bind λh=>(O tab .neq U h (Z 1 ds)).bind λh=>(W h false (aB tab dD 1 f.1)).bind λi=>(W h false (Y tab c.2 U i)).bind λi=>(W h false (O tab .lss U i (.int .i64 1))).bind λi=>(cV h (.bool true) i).bind λh=>(W h false (aB tab dD 1 f.1)).bind λi=>(W h false (Y tab c.2 U i)).bind λi=>(W h false (aB tab aC 3 b)).bind λj=>(W h false (Y tab c.2 U j)).bind λj=>(W h false (some (Z 1 ds))).bind λk=>(W h false (O tab .sub U j k)).bind λj=>(W h false (O tab .gtr U i j)).bind λi=>(cV h (.bool true) i).bind λh=>(W h false (some g)).bind λi=>(W h false (some i)).bind λi=>(W i true (aB tab dD 1 f.1)).bind λj=>(W i true (Y tab c.2 U j)).bind λj=>(W i true (aB tab aC 3 b)).bind λb=>(W i true (Y tab c.2 U b)).bind λb=>(W i true (some (Z 1 ds))).bind λk=>(W i true (O tab .sub U b k)).bind λb=>(W i true (O tab .lss U j b)).bind λb=>(W h false (cV i b (.bool false))).bind λb=>(cV h (.bool true) b).bind λb=>S b
  (some (.ret,[.int .i64 19,(Z 1 ds),(Z 5 ds),f.1,g,(Z 5 ds),d,b,(Z 8 ds)],c.2))
  ((aB tab dD 2 f.1).bind λh=>(Y tab c.2 bH h).bind λh=>(bC tab bH h).bind λh=>(O tab .gtr U h a).bind λa=>S a
  (some (.ret,[.int .i64 3,(Z 1 ds),(Z 5 ds),f.1,g,(Z 5 ds),d,b,a],c.2))
  ((aB tab dD 1 f.1).bind λh=>(Y tab c.2 U h).bind λh=>(O tab .add U (Z 1 ds) h).bind λh=>(O tab .add U (Z 5 ds) (.int .i64 1)).bind λi=>some (.aQ,[(Z 0 ds),h,(Z 5 ds),f.1,g,i,d,b,a],c.2))))
  (some ((.ext 1),[(Z 0 ds),(Z 1 ds),(Z 2 ds),(Z 3 ds),(Z 4 ds),(Z 5 ds),d,(Z 7 ds),(Z 8 ds)],e))
def Jl(a b:D)(h:J):Option (D × J):=
 (e9 a).bind λa=>(aB tab aC 4 a).bind λc=>(Y tab h bU c).bind λc=>(bC tab bU c).bind λc=>(O tab .eql U c (.int .i64 0)).bind λc=>S c
  (scope h h (aF [.int .i64 9]))
  ((aB tab aC 4 a).bind λc=>(Y tab h bU c).bind λc=>(bC tab bU c).bind λc=>(O tab .gtr U c (.int .i64 40)).bind λc=>S c
  (scope h h (aF [.int .i64 4]))
  ((aB tab aC 2 a).bind λc=>(Y tab h U c).bind λc=>(aB tab aC 4 a).bind λd=>(Y tab h bU d).bind λd=>(bC tab bU d).bind λe=>((cA (Jm b a d e) [.int .i64 0,c,.any,.any,.any,.int .i64 0,.any,.any,.any] h).bind λa=>some ((bX 1 a.1),[(Z 0 a.2.1),(Z 1 a.2.1),(Z 2 a.2.1),(Z 3 a.2.1),(Z 4 a.2.1),(Z 5 a.2.1),(Z 6 a.2.1),(Z 7 a.2.1),(Z 8 a.2.1)],a.2.2)).bind λa=>cI a.1 (scope h a.2.2 (aF [.int .i64 0])) λb=>dC b (scope h a.2.2 (aF [(Z 0 a.2.1)]))))
theorem UC(a b:D)(h:J):R yf [a,b] h=Jl a b h:=
 er D5
def Jn(a b:D)(h:J):Option (D × J):=
 (R x4 [a,b] h).bind λa=>(O tab .geq U a.1 (.int .i64 0)).bind λb=>some (aF [b],a.2)
theorem UD(a b:D)(h:J):R Dm [a,b] h=Jn a b h:=
 er D6
def Jo(a:D)(h:J):Option (D × J):=
 (e9 a).bind λa=>(aB tab dD 2 a).bind λa=>(Y tab h bH a).bind λa=>(O tab .neq bH a (.str [])).bind λa=>some (aF [a],h)
theorem UE(a:D)(h:J):R u9 [a] h=Jo a h:=
 er D7
def wV(a:D)(ds:List D)(b:J):Option bK:=
 (O tab .geq U (Z 1 ds) (.int .i64 0)).bind λc=>S c
  ((O tab .shr eG a (Z 1 ds)).bind λa=>(dT tab eG cD a).bind λa=>(dL tab aP 1 [0] [a]).bind λa=>(dB tab b aP aP (Z 0 ds) a).bind λa=>(O tab .sub U (Z 1 ds) (.int .i64 8)).bind λd=>some (.aQ,[a.1,d,c],a.2))
  (some ((.ext 0),[(Z 0 ds),(Z 1 ds),c],b))
def Kg(a b c:D)(h:J):Option (D × J):=
 (O tab .sub U c (.int .i64 1)).bind λc=>(O tab .mul U (.int .i64 8) c).bind λc=>((cA (wV b) [a,c,.any] h).bind λa=>some ((bX 0 a.1),[(Z 0 a.2.1),(Z 1 a.2.1),(Z 2 a.2.1)],a.2.2)).bind λa=>cI a.1 (some (aF [(Z 0 a.2.1)],a.2.2)) λb=>dC b (some (aF [.aA],a.2.2))
theorem Vm(a b c:D)(h:J):R mZ [a,b,c] h=Kg a b c h:=
 er D8
def K0(a b c d:D)(h:J):Option (D × J):=
 (R vw [a] h).bind λa=>(O tab .lss U d (.int .i64 1)).bind λe=>S e
  (scope h a.2 (aF [a.1]))
  ((R DP [a.1,b,c] a.2).bind λe=>(cT 0 e.1).bind λf=>(cT 1 e.1).bind λg=>(fS .not g).bind λg=>(S g
  ((eD tab eK [0,1] [b,c]).bind λb=>(dL tab dN 1 [0] [b]).bind λb=>(R vx [a.1,f,b] e.2).bind λb=>some (.aQ,[b.1],b.2))
  (some (.aQ,[a.1],e.2))).bind λa=>cI a.1 ((aO tab dN (Z 0 a.2.1) f).bind λb=>(aB tab eK 2 b).bind λb=>(Y tab a.2.2 U b).bind λb=>(O tab .add U b d).bind λb=>(aO tab dN (Z 0 a.2.1) f).bind λc=>(aB tab eK 2 c).bind λc=>((aS tab a.2.2 U c b).bind λb=>some ((.bA:D),b)).bind λb=>scope h b.2 (aF [(Z 0 a.2.1)])) λb=>dC b (scope h a.2.2 (aF [.aA])))
theorem uV(a b c d:D)(h:J):R yF [a,b,c,d] h=K0 a b c d h:=
 er D9
def uk(a b c:D)(ds:List D)(d:J):Option bK:=
 (O tab .lss U (Z 2 ds) c).bind λc=>S c
  ((aO tab bU a (Z 2 ds)).bind λa=>(Y tab d dD a).bind λa=>(hj R b [a] d).bind λa=>S a.1
  (some (.ret,[(Z 2 ds),(Z 2 ds),(Z 2 ds),c,a.1],a.2))
  ((O tab .add U (Z 2 ds) (.int .i64 1)).bind λb=>some (.aQ,[(Z 0 ds),(Z 2 ds),b,c,a.1],a.2)))
  (some ((.ext 0),[(Z 0 ds),(Z 1 ds),(Z 2 ds),c,(Z 4 ds)],d))
def IV(a b:D)(h:J):Option (D × J):=
 (bC tab bU a).bind λc=>((cA (uk a b c) [.int .i64 0,.any,.int .i64 0,.any,.any] h).bind λa=>some ((bX 0 a.1),[(Z 0 a.2.1),(Z 1 a.2.1),(Z 2 a.2.1),(Z 3 a.2.1),(Z 4 a.2.1)],a.2.2)).bind λa=>cI a.1 (some (aF [.int .i64 (-1)],a.2.2)) λb=>dC b (some (aF [(Z 0 a.2.1)],a.2.2))
theorem Uc(a b:D)(h:J):R x4 [a,b] h=IV a b h:=
 er Ea
def IW(a b:D)(h:J):Option (D × J):=
 (e9 a).bind λa=>(aB tab dD 0 a).bind λa=>(Y tab h U a).bind λa=>(Y tab h U b).bind λb=>(O tab .eql U a b).bind λa=>some (aF [a],h)
theorem Ud(a b:D)(h:J):R Dc [a,b] h=IW a b h:=
 er Eb
def IZ(a b c:D)(ds:List D)(d:J):Option bK:=
 (O tab .lss U (Z 0 ds) (Z 1 ds)).bind λe=>S e
  ((O tab .add U (Z 0 ds) (Z 1 ds)).bind λf=>(dT tab U hD f).bind λf=>(O tab .shr hD f (.int .u64 1)).bind λf=>(dT tab hD U f).bind λf=>(aO tab dV a f).bind λa=>(Y tab d eO a).bind λa=>(Y tab d eO c).bind λc=>(hj R b [a,c] d).bind λa=>(O tab .lss U a.1 (.int .i64 0)).bind λb=>(S b
  ((O tab .add U f (.int .i64 1)).bind λc=>some (.aQ,[c,(Z 1 ds)],a.2))
  (some (.aQ,[(Z 0 ds),f],a.2))).bind λa=>some ((bX 1 a.1),[(Z 0 a.2.1),(Z 1 a.2.1),f,e,b],a.2.2))
  (some ((.ext 0),[(Z 0 ds),(Z 1 ds),(Z 2 ds),e,(Z 4 ds)],d))
def IY(a b c:D)(h:J):Option (D × J):=
 (e9 b).bind λb=>(bC tab dV a).bind λd=>((cA (IZ a c b) [.int .i64 0,d,.any,.any,.any] h).bind λe=>some ((bX 0 e.1),[(Z 0 e.2.1),(Z 1 e.2.1),(Z 2 e.2.1),(Z 3 e.2.1),(Z 4 e.2.1)],e.2.2)).bind λe=>cI e.1 ((O tab .lss U (Z 0 e.2.1) d).bind λd=>(W d true (some c)).bind λc=>(W d true (some a)).bind λa=>(W d true (some (Z 0 e.2.1))).bind λf=>(W d true (aO tab dV a f)).bind λa=>(W d true (Y tab e.2.2 eO a)).bind λa=>(W d true (Y tab e.2.2 eO b)).bind λb=>(gQ d true e.2.2 (hj R c [a,b] e.2.2)).bind λa=>(W d true (O tab .eql U a.1 (.int .i64 0))).bind λb=>(cV d b (.bool false)).bind λb=>some (aF [(Z 0 e.2.1),b],a.2)) λa=>dC a (some (aF [.int .i64 0,.bool false],e.2.2))
theorem Uh(a b c:D)(h:J):R Dd [a,b,c] h=IY a b c h:=
 er Ec
def I0(a b:D)(h:J):Option (D × J):=
 (e9 a).bind λa=>(e9 b).bind λb=>(aB tab eO 0 a).bind λc=>(Y tab h U c).bind λc=>(aB tab eO 0 b).bind λd=>(Y tab h U d).bind λd=>(R pz [c,d] h).bind λc=>(aB tab eO 1 a).bind λa=>(Y tab c.2 U a).bind λd=>(aB tab eO 1 b).bind λb=>(Y tab c.2 U b).bind λe=>(R pz [d,e] c.2).bind λf=>(dL tab iR 2 [0,1] [c.1,f.1]).bind λc=>(R vy [c] f.2).bind λc=>dY (Y tab h U a=some d)
 (dY (Y tab h U b=some e)
 (some (aF [c.1],c.2)))
theorem Ui(a b:D)(h:J):R x7 [a,b] h=I0 a b h:=
 er Ed
def KR(a b c:D)(ds:List D)(d:J):Option bK:=
 (O tab .neq U (Z 0 ds) (Z 1 ds)).bind λe=>S e
  ((O tab .gtr U (Z 0 ds) (Z 1 ds)).bind λf=>(S f
  ((O tab .sub U b (Z 0 ds)).bind λg=>(R vu [a,g,b,(Z 1 ds),c] d).bind λg=>(O tab .sub U (Z 0 ds) (Z 1 ds)).bind λh=>some (.aQ,[h,(Z 1 ds)],g.2))
  ((O tab .sub U b (Z 0 ds)).bind λg=>(O tab .add U b (Z 1 ds)).bind λb=>(O tab .sub U b (Z 0 ds)).bind λb=>(R vu [a,g,b,(Z 0 ds),c] d).bind λa=>(O tab .sub U (Z 1 ds) (Z 0 ds)).bind λb=>some (.aQ,[(Z 0 ds),b],a.2))).bind λa=>some ((bX 1 a.1),[(Z 0 a.2.1),(Z 1 a.2.1),e,f],a.2.2))
  (some ((.ext 0),[(Z 0 ds),(Z 1 ds),e,(Z 3 ds)],d))
def KQ(a b c d e:D)(h:J):Option (D × J):=
 (O tab .sub U c b).bind λb=>(O tab .sub U d c).bind λd=>((cA (KR a c e) [b,d,.any,.any] h).bind λb=>some ((bX 0 b.1),[(Z 0 b.2.1),(Z 1 b.2.1),(Z 2 b.2.1),(Z 3 b.2.1)],b.2.2)).bind λb=>cI b.1 ((O tab .sub U c (Z 0 b.2.1)).bind λd=>(R vu [a,d,c,(Z 0 b.2.1),e] b.2.2).bind λa=>some (aF [],a.2)) λa=>dC a (some (aF [],b.2.2))
theorem VL(a b c d e:D)(h:J):R DK [a,b,c,d,e] h=KQ a b c d e h:=
 er Ef
def wL(a:D)(ds:List D)(b:J):Option bK:=
 (bC tab bQ a).bind λc=>(O tab .lss U (Z 1 ds) c).bind λc=>S c
  ((aO tab bQ a (Z 1 ds)).bind λa=>(aB tab bE 1 a).bind λa=>(Y tab b bH a).bind λa=>(bC tab bH a).bind λa=>(O tab .gtr U a (.int .i64 2000)).bind λa=>S a
  (some (.ret,[.int .i64 3,(Z 1 ds),c,a],b))
  ((O tab .add U (Z 1 ds) (.int .i64 1)).bind λd=>some (.aQ,[(Z 0 ds),d,c,a],b)))
  (some ((.ext 0),[(Z 0 ds),(Z 1 ds),c,(Z 3 ds)],b))
def AH(a:D)(h:J):Option (D × J):=
 (e9 a).bind λa=>(Y tab h aC a).bind λb=>(R u5 [b] h).bind λb=>(O tab .neq hz b.1 (.int .i64 0)).bind λc=>(W c false (aB tab aC 5 a)).bind λd=>(W c false (Y tab b.2 U d)).bind λd=>(W c false (O tab .lss U d (.int .i64 0))).bind λd=>(cV c (.bool true) d).bind λc=>(W c false (aB tab aC 5 a)).bind λd=>(W c false (Y tab b.2 U d)).bind λd=>(W c false (O tab .gtr U d (.int .i64 253402300799999))).bind λd=>(cV c (.bool true) d).bind λc=>S c
  (some (aF [.int .i64 2],b.2))
  ((aB tab aC 6 a).bind λc=>(Y tab b.2 U c).bind λc=>(R x6 [c] b.2).bind λb=>(fS .not b.1).bind λc=>S c
  (some (aF [.int .i64 21],b.2))
  ((Y tab b.2 aC a).bind λc=>(R u6 [c,.int .i64 2000] b.2).bind λb=>(O tab .neq hz b.1 (.int .i64 0)).bind λc=>S c
  (some (aF [b.1],b.2))
  ((aB tab aC 7 a).bind λc=>(Y tab b.2 bH c).bind λc=>(bC tab bH c).bind λc=>(O tab .gtr U c (.int .i64 32)).bind λc=>(W c false (aB tab aC 8 a)).bind λd=>(W c false (Y tab b.2 bH d)).bind λd=>(W c false (bC tab bH d)).bind λd=>(W c false (O tab .gtr U d (.int .i64 32))).bind λd=>(cV c (.bool true) d).bind λc=>S c
  (some (aF [.int .i64 3],b.2))
  ((aB tab aC 9 a).bind λc=>(Y tab b.2 bQ c).bind λc=>(R s6 [c] b.2).bind λb=>(cT 0 b.1).bind λc=>(cT 1 b.1).bind λd=>(O tab .neq hz d (.int .i64 0)).bind λe=>S e
  (some (aF [d],b.2))
  ((aB tab aC 9 a).bind λa=>(Y tab b.2 bQ a).bind λa=>(R yK [c,a] b.2).bind λa=>(fS .not a.1).bind λb=>S b
  (some (aF [.int .i64 19],a.2))
  (((cA (wL c) [.int .i64 0,.int .i64 0,.any,.any] a.2).bind λa=>some ((bX 0 a.1),[(Z 0 a.2.1),(Z 1 a.2.1),(Z 2 a.2.1),(Z 3 a.2.1)],a.2.2)).bind λa=>cI a.1 (some (aF [.int .i64 0],a.2.2)) λb=>dC b (some (aF [(Z 0 a.2.1)],a.2.2))))))))
theorem M6(a:D)(h:J):R x5 [a] h=AH a h:=
 er Eg
def AJ(a:D)(h:J):Option (D × J):=
 (e9 a).bind λa=>(aB tab aC 0 a).bind λb=>(Y tab h U b).bind λb=>(O tab .lss U b (.int .i64 0)).bind λb=>(W b false (aB tab aC 0 a)).bind λc=>(W b false (Y tab h U c)).bind λc=>(W b false (O tab .gtr U c (.int .i64 999))).bind λc=>(cV b (.bool true) c).bind λb=>(W b false (aB tab aC 1 a)).bind λc=>(W b false (Y tab h U c)).bind λc=>(W b false (O tab .lss U c (.int .i64 0))).bind λc=>(cV b (.bool true) c).bind λb=>(W b false (aB tab aC 1 a)).bind λc=>(W b false (Y tab h U c)).bind λc=>(W b false (O tab .gtr U c (.int .i64 2147483646))).bind λc=>(cV b (.bool true) c).bind λb=>(W b false (aB tab aC 2 a)).bind λc=>(W b false (Y tab h U c)).bind λc=>(W b false (O tab .lss U c (.int .i64 0))).bind λc=>(cV b (.bool true) c).bind λb=>(W b false (aB tab aC 3 a)).bind λc=>(W b false (Y tab h U c)).bind λc=>(W b false (aB tab aC 2 a)).bind λd=>(W b false (Y tab h U d)).bind λd=>(W b false (O tab .leq U c d)).bind λc=>(cV b (.bool true) c).bind λb=>(W b false (aB tab aC 3 a)).bind λa=>(W b false (Y tab h U a)).bind λa=>(W b false (O tab .gtr U a (.int .i64 60000))).bind λa=>(cV b (.bool true) a).bind λa=>S a
  (some (aF [.int .i64 2],h))
  (some (aF [.int .i64 0],h))
theorem M7(a:D)(h:J):R u5 [a] h=AJ a h:=
 er Eh
def AL(a b:D)(ds:List D)(c:J):Option bK:=
 (aB tab aC 4 b).bind λd=>(Y tab c bU d).bind λd=>(bC tab bU d).bind λd=>(O tab .lss U (Z 2 ds) d).bind λd=>S d
  ((aB tab aC 4 b).bind λe=>(Y tab c bU e).bind λe=>(aO tab bU e (Z 2 ds)).bind λe=>(Y tab c dD e).bind λe=>(gM 3 e).bind λe=>(aB tab dD 0 e).bind λf=>(Y tab c U f).bind λf=>(O tab .neq U f (Z 1 ds)).bind λf=>(W f false (aB tab dD 1 e)).bind λg=>(W f false (Y tab c U g)).bind λg=>(W f false (O tab .lss U g (.int .i64 1))).bind λg=>(cV f (.bool true) g).bind λf=>(W f false (aB tab dD 1 e)).bind λg=>(W f false (Y tab c U g)).bind λg=>(W f false (aB tab aC 3 b)).bind λh=>(W f false (Y tab c U h)).bind λh=>(W f false (some (Z 1 ds))).bind λi=>(W f false (O tab .sub U h i)).bind λh=>(W f false (O tab .gtr U g h)).bind λg=>(cV f (.bool true) g).bind λf=>(W f false (some (Z 2 ds))).bind λg=>(W f false (aB tab aC 4 b)).bind λh=>(W f false (Y tab c bU h)).bind λh=>(W f false (bC tab bU h)).bind λh=>(W f false (O tab .sub U h (.int .i64 1))).bind λh=>(W f false (O tab .eql U g h)).bind λg=>(W f false (some g)).bind λg=>(W g true (aB tab dD 1 e)).bind λh=>(W g true (Y tab c U h)).bind λh=>(W g true (aB tab aC 3 b)).bind λb=>(W g true (Y tab c U b)).bind λb=>(W g true (some (Z 1 ds))).bind λi=>(W g true (O tab .sub U b i)).bind λb=>(W g true (O tab .neq U h b)).bind λb=>(W f false (cV g b (.bool false))).bind λb=>(cV f (.bool true) b).bind λb=>S b
  (some (.ret,[.int .i64 19,(Z 1 ds),(Z 2 ds),e,d,b,(Z 6 ds)],c))
  ((aB tab dD 2 e).bind λf=>(Y tab c bH f).bind λf=>(bC tab bH f).bind λf=>(O tab .gtr U f a).bind λa=>S a
  (some (.ret,[.int .i64 3,(Z 1 ds),(Z 2 ds),e,d,b,a],c))
  ((aB tab dD 1 e).bind λf=>(Y tab c U f).bind λf=>(O tab .add U (Z 1 ds) f).bind λf=>(O tab .add U (Z 2 ds) (.int .i64 1)).bind λg=>some (.aQ,[(Z 0 ds),f,g,e,d,b,a],c))))
  (some ((.ext 0),[(Z 0 ds),(Z 1 ds),(Z 2 ds),(Z 3 ds),d,(Z 5 ds),(Z 6 ds)],c))
def AK(a b:D)(h:J):Option (D × J):=
 (e9 a).bind λa=>(aB tab aC 4 a).bind λc=>(Y tab h bU c).bind λc=>(bC tab bU c).bind λc=>(O tab .eql U c (.int .i64 0)).bind λc=>S c
  (some (aF [.int .i64 9],h))
  ((aB tab aC 4 a).bind λc=>(Y tab h bU c).bind λc=>(bC tab bU c).bind λc=>(O tab .gtr U c (.int .i64 40)).bind λc=>S c
  (some (aF [.int .i64 4],h))
  ((aB tab aC 2 a).bind λc=>(Y tab h U c).bind λc=>((cA (AL b a) [.int .i64 0,c,.int .i64 0,.any,.any,.any,.any] h).bind λa=>some ((bX 0 a.1),[(Z 0 a.2.1),(Z 1 a.2.1),(Z 2 a.2.1),(Z 3 a.2.1),(Z 4 a.2.1),(Z 5 a.2.1),(Z 6 a.2.1)],a.2.2)).bind λa=>cI a.1 (some (aF [.int .i64 0],a.2.2)) λb=>dC b (some (aF [(Z 0 a.2.1)],a.2.2))))
theorem M8(a b:D)(h:J):R u6 [a,b] h=AK a b h:=
 er Ei
def I2(a:D)(h:J):Option (D × J):=
 (dL tab hF 14 [0,1,2,3,4,5,6,7,8,9,10,11,12,13] [.str [103,101,116],.str [101,114,114,111,114],.str [119,97,114,110],.str [97,49],.str [117,115,101,114,95,55],.str [120],.str [84,105,109,101,111,117,116],.str [50,48,48],.str [71,69,84],.str [101,114,114,111],.str [122],.str [],.str [255],.str [97,46,98]]).bind λb=>(bC tab hF b).bind λc=>(R gP [a,c] h).bind λa=>(aO tab hF b a.1).bind λb=>(Y tab a.2 bH b).bind λb=>some (aF [b],a.2)
theorem Ul(a:D)(h:J):R x9 [a] h=I2 a h:=
 er Ej
def KY(a:D)(h:J):Option (D × J):=
 (dL tab hF 11 [0,1,2,3,4,5,6,7,8,9,10] [.str [119,97,114,110],.str [105,110,102,111],.str [55],.str [45,51],.str [51,49],.str [],.str [120,32,121],.str [57,57,57,57,57,57,57,57,57,57,57,57,57,57,57,57,57,57],.str [49,48,48,48,48,48,48,48,48,48,48,48,48,48,48,48,48,48,48],.str [48,55],.str [45]]).bind λb=>(bC tab hF b).bind λc=>(R gP [a,c] h).bind λa=>(aO tab hF b a.1).bind λb=>(Y tab a.2 bH b).bind λb=>some (aF [b],a.2)
theorem VO(a:D)(h:J):R DN [a] h=KY a h:=
 er Ek
def Kb(a b:D)(h:J):Option (D × J):=
 (bC tab bH b).bind λc=>(dT tab U eG c).bind λc=>(R mi [a,c,.int .i64 4] h).bind λa=>(dB tab a.2 aP bH a.1 b).bind λa=>some (aF [a.1],a.2)
theorem Vh(a b:D)(h:J):R px [a,b] h=Kb a b h:=
 er El
def Kc(a b:D)(h:J):Option (D × J):=
 (dT tab U eG b).bind λb=>(R mi [a,b,.int .i64 8] h).bind λa=>some (aF [a.1],a.2)
theorem Vi(a b:D)(h:J):R nJ [a,b] h=Kc a b h:=
 er Em
def Jp(a b c:D)(h:J):Option (D × J):=
 (O tab .leq U b a).bind λb=>(W b true (some a)).bind λa=>(W b true (some c)).bind λc=>(W b true (O tab .leq U a c)).bind λa=>(cV b a (.bool false)).bind λa=>some (aF [a],h)
theorem UF(a b c:D)(h:J):R tc [a,b,c] h=Jp a b c h:=
 er Eo
def AV(a b:D)(ds:List D)(c:J):Option bK:=
 (O tab .lss U (Z 3 ds) b).bind λb=>S b
  ((aO tab bQ a (Z 3 ds)).bind λa=>(Y tab c bE a).bind λa=>(gM 2 a).bind λa=>(aB tab bE 0 a).bind λd=>(Y tab c bH d).bind λd=>(R Dq [d] c).bind λd=>(fS .not d.1).bind λe=>S e
  (some (.ret,[.aA,.int .i64 6,a,(Z 3 ds),b,e],d.2))
  ((O tab .add U (Z 3 ds) (.int .i64 1)).bind λf=>some (.aQ,[(Z 0 ds),(Z 1 ds),a,f,b,e],d.2)))
  (some ((.ext 0),[(Z 0 ds),(Z 1 ds),(Z 2 ds),(Z 3 ds),b,(Z 5 ds)],c))
def AW(a:D)(b:List D)(c:J):Option bK:=
 (bC tab bQ a).bind λd=>(O tab .lss U (Z 2 b) d).bind λd=>S d
  ((aO tab bQ a (Z 2 b)).bind λe=>(aB tab bE 0 e).bind λe=>(Y tab c bH e).bind λe=>(O tab .sub U (Z 2 b) (.int .i64 1)).bind λf=>(aO tab bQ a f).bind λa=>(aB tab bE 0 a).bind λa=>(Y tab c bH a).bind λa=>(O tab .eql bH e a).bind λa=>S a
  (some (.ret,[.aA,.int .i64 7,(Z 2 b),d,a],c))
  ((O tab .add U (Z 2 b) (.int .i64 1)).bind λe=>some (.aQ,[(Z 0 b),(Z 1 b),e,d,a],c)))
  (some ((.ext 2),[(Z 0 b),(Z 1 b),(Z 2 b),d,(Z 4 b)],c))
def AU(a:D)(h:J):Option (D × J):=
 (bC tab bQ a).bind λb=>(O tab .gtr U b (.int .i64 32)).bind λb=>S b
  (some (aF [.aA,.int .i64 4],h))
  ((bC tab bQ a).bind λb=>((cA (AV a b) [.aA,.int .i64 0,.any,.int .i64 0,.any,.any] h).bind λb=>some ((bX 0 b.1),[(Z 0 b.2.1),(Z 1 b.2.1),(Z 2 b.2.1),(Z 3 b.2.1),(Z 4 b.2.1),(Z 5 b.2.1)],b.2.2)).bind λb=>cI b.1 ((R rE [a] b.2.2).bind λa=>(R vg [a.1,.fn (.func rG) [] []] a.2).bind λc=>((cA (AW a.1) [(Z 0 b.2.1),(Z 1 b.2.1),.int .i64 1,.any,.any] c.2).bind λc=>some ((bX 2 c.1),[(Z 0 c.2.1),(Z 1 c.2.1),(Z 2 c.2.1),(Z 3 c.2.1),(Z 4 c.2.1)],c.2.2)).bind λc=>cI c.1 (some (aF [a.1,.int .i64 0],c.2.2)) λa=>dC a (some (aF [(Z 0 c.2.1),(Z 1 c.2.1)],c.2.2))) λa=>dC a (some (aF [(Z 0 b.2.1),(Z 1 b.2.1)],b.2.2)))
theorem UG(a:D)(h:J):R vd [a] h=AU a h:=
 er Ep
def Jr(a b c:D)(ds:List D)(d:J):Option bK:=
 (O tab .lss U (Z 2 ds) c).bind λc=>S c
  ((aO tab bQ a (Z 2 ds)).bind λa=>(Y tab d bE a).bind λa=>(aO tab bQ b (Z 2 ds)).bind λb=>(Y tab d bE b).bind λb=>(O tab .neq bE a b).bind λa=>S a
  (some (.ret,[.bool false,(Z 2 ds),(Z 2 ds),c,a],d))
  ((O tab .add U (Z 2 ds) (.int .i64 1)).bind λb=>some (.aQ,[(Z 0 ds),(Z 2 ds),b,c,a],d)))
  (some ((.ext 0),[(Z 0 ds),(Z 1 ds),(Z 2 ds),c,(Z 4 ds)],d))
def Jq(a b:D)(h:J):Option (D × J):=
 (bC tab bQ a).bind λc=>(bC tab bQ b).bind λd=>(O tab .neq U c d).bind λc=>S c
  (some (aF [.bool false],h))
  ((bC tab bQ a).bind λc=>((cA (Jr a b c) [.bool false,.any,.int .i64 0,.any,.any] h).bind λa=>some ((bX 0 a.1),[(Z 0 a.2.1),(Z 1 a.2.1),(Z 2 a.2.1),(Z 3 a.2.1),(Z 4 a.2.1)],a.2.2)).bind λa=>cI a.1 (some (aF [.bool true],a.2.2)) λb=>dC b (some (aF [(Z 0 a.2.1)],a.2.2)))
theorem UH(a b:D)(h:J):R Dn [a,b] h=Jq a b h:=
 er Er
def Js(a b:D)(h:J):Option (D × J):=
 (R Ds [a,b] h).bind λa=>(O tab .geq U a.1 (.int .i64 0)).bind λb=>some (aF [b],a.2)
theorem UI(a b:D)(h:J):R Dp [a,b] h=Js a b h:=
 er Es
def Jt(a:D)(h:J):Option (D × J):=
 (e9 a).bind λa=>(aB tab bE 1 a).bind λa=>(Y tab h bH a).bind λa=>(bC tab bH a).bind λa=>(O tab .gtr U a (.int .i64 2000)).bind λa=>some (aF [a],h)
theorem UJ(a:D)(h:J):R ve [a] h=Jt a h:=
 er Et
def K6(a b c:D)(h:J):Option (D × J):=
 (eD tab eK [0,1] [b,c]).bind λb=>(R DS [a,b,.fn (.func yJ) [] []] h).bind λa=>(cT 0 a.1).bind λb=>(cT 1 a.1).bind λc=>some (aF [b,c],a.2)
theorem VS(a b c:D)(h:J):R DP [a,b,c] h=K6 a b c h:=
 er Eu
def KT(a b c d:D)(ds:List D)(e:J):Option bK:=
 (O tab .lss U (Z 0 ds) d).bind λd=>S d
  ((O tab .add U b (Z 0 ds)).bind λf=>(O tab .add U c (Z 0 ds)).bind λg=>(O tab .add U c (Z 0 ds)).bind λc=>(aO tab dX a c).bind λc=>(Y tab e aC c).bind λc=>(O tab .add U b (Z 0 ds)).bind λb=>(aO tab dX a b).bind λb=>(Y tab e aC b).bind λb=>(aO tab dX a f).bind λf=>((aS tab e aC f c).bind λc=>some ((.bA:D),c)).bind λf=>(aO tab dX a g).bind λa=>((aS tab f.2 aC a b).bind λc=>some ((.bA:D),c)).bind λa=>(O tab .add U (Z 0 ds) (.int .i64 1)).bind λb=>some (.aQ,[b,d],a.2))
  (some ((.ext 0),[(Z 0 ds),d],e))
def KS(a b c d e:D)(h:J):Option (D × J):=
 ((cA (KT a b c d) [.int .i64 0,.any] h).bind λa=>some ((bX 0 a.1),[(Z 0 a.2.1),(Z 1 a.2.1)],a.2.2)).bind λa=>dC a.1 (some (aF [],a.2.2))
theorem VM(a b c d e:D)(h:J):R vu [a,b,c,d,e] h=KS a b c d e h:=
 er Ew
def AM(a:D)(h:J):Option (D × J):=
 (O tab .geq U a (.int .i64 1)).bind λb=>(W b true (some a)).bind λc=>(W b true (O tab .leq U c (.int .i64 5040))).bind λc=>(cV b c (.bool false)).bind λb=>(W b true (some a)).bind λa=>(W b true (O tab .rem U (.int .i64 5040) a)).bind λa=>(W b true (O tab .eql U a (.int .i64 0))).bind λa=>(cV b a (.bool false)).bind λa=>some (aF [a],h)
theorem M9(a:D)(h:J):R x6 [a] h=AM a h:=
 er Ey
def um(a:D)(ds:List D)(b:J):Option bK:=
 (bC tab bQ a).bind λc=>(O tab .lss U (Z 2 ds) c).bind λc=>S c
  ((aO tab bQ a (Z 2 ds)).bind λa=>(aB tab bE 0 a).bind λa=>(Y tab b bH a).bind λa=>(R De [a] b).bind λa=>(fS .not a.1).bind λd=>S d
  (some (.ret,[.aA,.int .i64 6,(Z 2 ds),c,d],a.2))
  ((O tab .add U (Z 2 ds) (.int .i64 1)).bind λe=>some (.aQ,[(Z 0 ds),(Z 1 ds),e,c,d],a.2)))
  (some ((.ext 0),[(Z 0 ds),(Z 1 ds),(Z 2 ds),c,(Z 4 ds)],b))
def se(a:D)(b:List D)(c:D)(d:List D)(e:J):Option bK:=
 (O tab .gtr U (Z 0 d) (.int .i64 0)).bind λf=>(W f true (some (c:D))).bind λg=>(W f true (some (Z 0 d))).bind λh=>(W f true (O tab .sub U h (.int .i64 1))).bind λh=>(W f true (aO tab bQ g h)).bind λg=>(W f true (aB tab bE 0 g)).bind λg=>(W f true (Y tab e bH g)).bind λg=>(W f true (some a)).bind λa=>(W f true (some (Z 3 b))).bind λb=>(W f true (aO tab bQ a b)).bind λa=>(W f true (aB tab bE 0 a)).bind λa=>(W f true (Y tab e bH a)).bind λa=>(W f true (O tab .gtr bH g a)).bind λa=>(cV f a (.bool false)).bind λa=>S a
  ((O tab .sub U (Z 0 d) (.int .i64 1)).bind λb=>(aO tab bQ c b).bind λb=>(Y tab e bE b).bind λb=>(aO tab bQ c (Z 0 d)).bind λc=>((aS tab e bE c b).bind λb=>some ((.bA:D),b)).bind λb=>(O tab .sub U (Z 0 d) (.int .i64 1)).bind λc=>some (.aQ,[c,a],b.2))
  (some ((.ext 4),[(Z 0 d),a],e))
def AN(a:D)(b:List D)(c:J):Option bK:=
 (bC tab bQ a).bind λd=>(O tab .lss U (Z 3 b) d).bind λd=>S d
  ((bC tab bQ (Z 2 b)).bind λe=>(aO tab bQ a (Z 3 b)).bind λf=>(Y tab c bE f).bind λf=>(dL tab bQ 1 [0] [f]).bind λf=>(dB tab c bQ bQ (Z 2 b) f).bind λf=>((cA (se a b f.1) [e,(Z 6 b)] f.2).bind λe=>some ((bX 4 e.1),[(Z 0 e.2.1),(Z 1 e.2.1)],e.2.2)).bind λe=>cI e.1 ((aO tab bQ a (Z 3 b)).bind λg=>(Y tab e.2.2 bE g).bind λg=>(aO tab bQ f.1 (Z 0 e.2.1)).bind λh=>((aS tab e.2.2 bE h g).bind λg=>some ((.bA:D),g)).bind λg=>(O tab .gtr U (Z 0 e.2.1) (.int .i64 0)).bind λh=>(W h true (some f.1)).bind λi=>(W h true (some (Z 0 e.2.1))).bind λj=>(W h true (O tab .sub U j (.int .i64 1))).bind λj=>(W h true (aO tab bQ i j)).bind λi=>(W h true (aB tab bE 0 i)).bind λi=>(W h true (Y tab g.2 bH i)).bind λi=>(W h true (some a)).bind λa=>(W h true (some (Z 3 b))).bind λj=>(W h true (aO tab bQ a j)).bind λa=>(W h true (aB tab bE 0 a)).bind λa=>(W h true (Y tab g.2 bH a)).bind λa=>(W h true (O tab .eql bH i a)).bind λa=>(cV h a (.bool false)).bind λa=>S a
  (some (.ret,[.aA,.int .i64 7,f.1,(Z 3 b),(Z 0 e.2.1),d,(Z 1 e.2.1),a],g.2))
  ((O tab .add U (Z 3 b) (.int .i64 1)).bind λh=>some (.aQ,[(Z 0 b),(Z 1 b),f.1,h,(Z 0 e.2.1),d,(Z 1 e.2.1),a],g.2))) λa=>cI (bX 3 a) ((O tab .add U (Z 3 b) (.int .i64 1)).bind λa=>some (.aQ,[(Z 0 b),(Z 1 b),f.1,a,(Z 0 e.2.1),d,(Z 1 e.2.1),(Z 7 b)],e.2.2)) λa=>some (a,[(Z 0 b),(Z 1 b),f.1,(Z 3 b),(Z 0 e.2.1),d,(Z 1 e.2.1),(Z 7 b)],e.2.2))
  (some ((.ext 2),[(Z 0 b),(Z 1 b),(Z 2 b),(Z 3 b),(Z 4 b),d,(Z 6 b),(Z 7 b)],c))
def wM(a:D)(h:J):Option (D × J):=
 (bC tab bQ a).bind λb=>(O tab .gtr U b (.int .i64 32)).bind λb=>S b
  (scope h h (aF [.aA,.int .i64 4]))
  (((cA (um a) [.aA,.int .i64 0,.int .i64 0,.any,.any] h).bind λb=>some ((bX 0 b.1),[(Z 0 b.2.1),(Z 1 b.2.1),(Z 2 b.2.1),(Z 3 b.2.1),(Z 4 b.2.1)],b.2.2)).bind λb=>cI b.1 (((cA (AN a) [(Z 0 b.2.1),(Z 1 b.2.1),.aA,.int .i64 0,.any,.any,.any,.any] b.2.2).bind λa=>some ((bX 2 a.1),[(Z 0 a.2.1),(Z 1 a.2.1),(Z 2 a.2.1),(Z 3 a.2.1),(Z 4 a.2.1),(Z 5 a.2.1),(Z 6 a.2.1),(Z 7 a.2.1)],a.2.2)).bind λa=>cI a.1 (scope h a.2.2 (aF [(Z 2 a.2.1),.int .i64 0])) λc=>dC c (scope h a.2.2 (aF [(Z 0 a.2.1),(Z 1 a.2.1)]))) λa=>dC a (scope h b.2.2 (aF [(Z 0 b.2.1),(Z 1 b.2.1)])))
theorem Na(a:D)(h:J):R s6 [a] h=wM a h:=
 er EA
def sn(a:D × J)(b:D)(ds:List D)(c:J):Option bK:=
 (O tab .lss U (Z 2 ds) b).bind λb=>S b
  ((aO tab aP a.1 (Z 2 ds)).bind λa=>(Y tab c cD a).bind λa=>(R Du [a] c).bind λd=>(fS .not d.1).bind λe=>(W e true (some a)).bind λf=>(W e true (O tab .neq cD f (.int .u8 46))).bind λf=>(cV e f (.bool false)).bind λe=>S e
  (some (.ret,[.bool false,a,(Z 2 ds),b,e],d.2))
  ((O tab .add U (Z 2 ds) (.int .i64 1)).bind λf=>some (.aQ,[(Z 0 ds),a,f,b,e],d.2)))
  (some ((.ext 0),[(Z 0 ds),(Z 1 ds),(Z 2 ds),b,(Z 4 ds)],c))
def sj(a:D)(h:J):Option (D × J):=
 (O tab .eql bH a (.str [])).bind λb=>(W b false (some a)).bind λc=>(W b false (bC tab bH c)).bind λc=>(W b false (O tab .gtr U c (.int .i64 32))).bind λc=>(cV b (.bool true) c).bind λb=>(W b false (some a)).bind λc=>(W b false (mR tab bH c (.int .i64 0))).bind λc=>(gQ b false h (R Dt [c] h)).bind λc=>(W b false (fS .not c.1)).bind λd=>(W b false (some d)).bind λd=>(W d true (some a)).bind λe=>(W d true (mR tab bH e (.int .i64 0))).bind λe=>(W d true (O tab .neq cD e (.int .u8 95))).bind λe=>(W b false (cV d e (.bool false))).bind λd=>(cV b (.bool true) d).bind λb=>S b
  (scope h c.2 (aF [.bool false]))
  ((Rq cD c.2 a).bind λa=>(bC tab aP a.1).bind λb=>((cA (sn a b) [.bool false,.any,.int .i64 0,.any,.any] a.2).bind λa=>some ((bX 0 a.1),[(Z 0 a.2.1),(Z 1 a.2.1),(Z 2 a.2.1),(Z 3 a.2.1),(Z 4 a.2.1)],a.2.2)).bind λa=>cI a.1 (scope h a.2.2 (aF [.bool true])) λb=>dC b (scope h a.2.2 (aF [(Z 0 a.2.1)])))
theorem UK(a:D)(h:J):R Dq [a] h=sj a h:=
 er EB
def AX(a b:D)(h:J):Option (D × J):=
 (bC tab bQ a).bind λc=>(R yg [a,c,b] h).bind λa=>some (aF [],a.2)
theorem Nc(a b:D)(h:J):R vg [a,b] h=AX a b h:=
 er EC
def Ju(a b:D)(h:J):Option (D × J):=
 (e9 a).bind λa=>(e9 b).bind λb=>(aB tab bE 0 a).bind λa=>(Y tab h bH a).bind λa=>(aB tab bE 0 b).bind λb=>(Y tab h bH b).bind λb=>(R Dr [a,b] h).bind λa=>some (aF [a.1],a.2)
theorem UL(a b:D)(h:J):R rG [a,b] h=Ju a b h:=
 er ED
def Jv(a b:D)(h:J):Option (D × J):=
 (R N3 [a,b] h).bind λa=>some (aF [a.1],a.2)
theorem UM(a b:D)(h:J):R Dr [a,b] h=Jv a b h:=
 er EE
def uq(a b c:D)(ds:List D)(d:J):Option bK:=
 (O tab .lss U (Z 2 ds) c).bind λc=>S c
  ((aO tab bQ a (Z 2 ds)).bind λa=>(Y tab d bE a).bind λa=>(hj R b [a] d).bind λa=>S a.1
  (some (.ret,[(Z 2 ds),(Z 2 ds),(Z 2 ds),c,a.1],a.2))
  ((O tab .add U (Z 2 ds) (.int .i64 1)).bind λb=>some (.aQ,[(Z 0 ds),(Z 2 ds),b,c,a.1],a.2)))
  (some ((.ext 0),[(Z 0 ds),(Z 1 ds),(Z 2 ds),c,(Z 4 ds)],d))
def Jw(a b:D)(h:J):Option (D × J):=
 (bC tab bQ a).bind λc=>((cA (uq a b c) [.int .i64 0,.any,.int .i64 0,.any,.any] h).bind λa=>some ((bX 0 a.1),[(Z 0 a.2.1),(Z 1 a.2.1),(Z 2 a.2.1),(Z 3 a.2.1),(Z 4 a.2.1)],a.2.2)).bind λa=>cI a.1 (some (aF [.int .i64 (-1)],a.2.2)) λb=>dC b (some (aF [(Z 0 a.2.1)],a.2.2))
theorem UN(a b:D)(h:J):R Ds [a,b] h=Jw a b h:=
 er EF
def Lc(a b c:D)(ds:List D)(d:J):Option bK:=
 (O tab .lss U (Z 0 ds) (Z 1 ds)).bind λe=>S e
  ((O tab .add U (Z 0 ds) (Z 1 ds)).bind λf=>(dT tab U hD f).bind λf=>(O tab .shr hD f (.int .u64 1)).bind λf=>(dT tab hD U f).bind λf=>(aO tab dN a f).bind λa=>(Y tab d eK a).bind λa=>(Y tab d eK c).bind λc=>(hj R b [a,c] d).bind λa=>(O tab .lss U a.1 (.int .i64 0)).bind λb=>(S b
  ((O tab .add U f (.int .i64 1)).bind λc=>some (.aQ,[c,(Z 1 ds)],a.2))
  (some (.aQ,[(Z 0 ds),f],a.2))).bind λa=>some ((bX 1 a.1),[(Z 0 a.2.1),(Z 1 a.2.1),f,e,b],a.2.2))
  (some ((.ext 0),[(Z 0 ds),(Z 1 ds),(Z 2 ds),e,(Z 4 ds)],d))
def Lb(a b c:D)(h:J):Option (D × J):=
 (e9 b).bind λb=>(bC tab dN a).bind λd=>((cA (Lc a c b) [.int .i64 0,d,.any,.any,.any] h).bind λe=>some ((bX 0 e.1),[(Z 0 e.2.1),(Z 1 e.2.1),(Z 2 e.2.1),(Z 3 e.2.1),(Z 4 e.2.1)],e.2.2)).bind λe=>cI e.1 ((O tab .lss U (Z 0 e.2.1) d).bind λd=>(W d true (some c)).bind λc=>(W d true (some a)).bind λa=>(W d true (some (Z 0 e.2.1))).bind λf=>(W d true (aO tab dN a f)).bind λa=>(W d true (Y tab e.2.2 eK a)).bind λa=>(W d true (Y tab e.2.2 eK b)).bind λb=>(gQ d true e.2.2 (hj R c [a,b] e.2.2)).bind λa=>(W d true (O tab .eql U a.1 (.int .i64 0))).bind λb=>(cV d b (.bool false)).bind λb=>some (aF [(Z 0 e.2.1),b],a.2)) λa=>dC a (some (aF [.int .i64 0,.bool false],e.2.2))
theorem VW(a b c:D)(h:J):R DS [a,b,c] h=Lb a b c h:=
 er EG
def Ld(a b:D)(h:J):Option (D × J):=
 (e9 a).bind λa=>(e9 b).bind λb=>(aB tab eK 0 a).bind λc=>(Y tab h U c).bind λc=>(aB tab eK 0 b).bind λd=>(Y tab h U d).bind λd=>(R pz [c,d] h).bind λc=>(aB tab eK 1 a).bind λa=>(Y tab c.2 bH a).bind λd=>(aB tab eK 1 b).bind λb=>(Y tab c.2 bH b).bind λe=>(R DT [d,e] c.2).bind λf=>(dL tab iR 2 [0,1] [c.1,f.1]).bind λc=>(R vy [c] f.2).bind λc=>dY (Y tab h bH a=some d)
 (dY (Y tab h bH b=some e)
 (some (aF [c.1],c.2)))
theorem VX(a b:D)(h:J):R yJ [a,b] h=Ld a b h:=
 er EH
def Lh(a b:D)(h:J):Option (D × J):=
 (R x1 [a] h).bind λc=>(R x1 [b] c.2).bind λd=>S c.1
  (S d.1
  (some (aF [.int .i64 0],d.2))
  (some (aF [.int .i64 (-1)],d.2)))
  (S d.1
  (some (aF [.int .i64 1],d.2))
  ((O tab .lss bH a b).bind λc=>S c
  (some (aF [.int .i64 (-1)],d.2))
  ((O tab .gtr bH a b).bind λa=>S a
  (some (aF [.int .i64 1],d.2))
  (some (aF [.int .i64 0],d.2)))))
theorem VZ(a b:D)(h:J):R DT [a,b] h=Lh a b h:=
 er EI
def sg(a:D)(ds:List D)(b:J):Option bK:=
 (bC tab bH a).bind λc=>(O tab .lss U (Z 1 ds) c).bind λc=>S c
  ((mR tab bH a (Z 1 ds)).bind λd=>(R Df [d] b).bind λd=>(fS .not d.1).bind λe=>(W e true (some a)).bind λa=>(W e true (some (Z 1 ds))).bind λf=>(W e true (mR tab bH a f)).bind λa=>(W e true (O tab .neq cD a (.int .u8 46))).bind λa=>(cV e a (.bool false)).bind λa=>S a
  (some (.ret,[.bool false,(Z 1 ds),c,a],d.2))
  ((O tab .add U (Z 1 ds) (.int .i64 1)).bind λe=>some (.aQ,[(Z 0 ds),e,c,a],d.2)))
  (some ((.ext 0),[(Z 0 ds),(Z 1 ds),c,(Z 3 ds)],b))
def sf(a:D)(h:J):Option (D × J):=
 (bC tab bH a).bind λb=>(O tab .lss U b (.int .i64 1)).bind λb=>(W b false (some a)).bind λc=>(W b false (bC tab bH c)).bind λc=>(W b false (O tab .gtr U c (.int .i64 32))).bind λc=>(cV b (.bool true) c).bind λb=>(W b false (some a)).bind λc=>(W b false (mR tab bH c (.int .i64 0))).bind λc=>(gQ b false h (R x8 [c] h)).bind λc=>(W b false (fS .not c.1)).bind λd=>(W b false (some d)).bind λd=>(W d true (some a)).bind λe=>(W d true (mR tab bH e (.int .i64 0))).bind λe=>(W d true (O tab .neq cD e (.int .u8 95))).bind λe=>(W b false (cV d e (.bool false))).bind λd=>(cV b (.bool true) d).bind λb=>S b
  (some (aF [.bool false],c.2))
  (((cA (sg a) [.bool false,.int .i64 0,.any,.any] c.2).bind λa=>some ((bX 0 a.1),[(Z 0 a.2.1),(Z 1 a.2.1),(Z 2 a.2.1),(Z 3 a.2.1)],a.2.2)).bind λa=>cI a.1 (some (aF [.bool true],a.2.2)) λb=>dC b (some (aF [(Z 0 a.2.1)],a.2.2)))
theorem Uj(a:D)(h:J):R De [a] h=sf a h:=
 er EK
def Jx(a:D)(h:J):Option (D × J):=
 (aO tab Ao (.aE nO) a).bind λa=>(Y tab h cD a).bind λa=>(O tab .and cD a (.int .u8 2)).bind λa=>(O tab .neq cD a (.int .u8 0)).bind λa=>some (aF [a],h)
theorem UO(a:D)(h:J):R Dt [a] h=Jx a h:=
 er EL
def Jy(a:D)(h:J):Option (D × J):=
 (aO tab Ao (.aE nO) a).bind λb=>(Y tab h cD b).bind λb=>(O tab .and cD b (.int .u8 3)).bind λb=>(O tab .neq cD b (.int .u8 0)).bind λb=>(W b false (some a)).bind λa=>(W b false (O tab .eql cD a (.int .u8 95))).bind λa=>(cV b (.bool true) a).bind λa=>some (aF [a],h)
theorem UP(a:D)(h:J):R Du [a] h=Jy a h:=
 er EM
def AZ(a b c d:D)(ds:List D)(e:J):Option bK:=
 (O tab .leq U (Z 1 ds) b).bind λb=>S b
  ((R rH [a,(Z 0 ds),(Z 1 ds),c] e).bind λa=>(O tab .add U (Z 1 ds) d).bind λc=>some (.aQ,[(Z 1 ds),c,b],a.2))
  (some ((.ext 0),[(Z 0 ds),(Z 1 ds),b],e))
def Jz(a b c:D)(d:List D)(e:List D)(f:J):Option bK:=
 (O tab .leq U (Z 1 e) b).bind λb=>S b
  ((O tab .add U (Z 0 e) (Z 0 d)).bind λg=>(R qv [a,(Z 0 e),g,(Z 1 e),c] f).bind λa=>(O tab .mul U (.int .i64 2) (Z 0 d)).bind λc=>(O tab .add U (Z 1 e) c).bind λc=>some (.aQ,[(Z 1 e),c,b],a.2))
  (some ((.ext 4),[(Z 0 e),(Z 1 e),b],f))
def A0(a b c:D)(d:List D)(e:J):Option bK:=
 (O tab .lss U (Z 0 d) b).bind λf=>S f
  ((O tab .mul U (.int .i64 2) (Z 0 d)).bind λg=>((cA (Jz a b c d) [.int .i64 0,g,(Z 5 d)] e).bind λg=>some ((bX 4 g.1),[(Z 0 g.2.1),(Z 1 g.2.1),(Z 2 g.2.1)],g.2.2)).bind λg=>cI g.1 ((O tab .add U (Z 0 g.2.1) (Z 0 d)).bind λh=>(O tab .lss U h b).bind λi=>(S i
  ((R qv [a,(Z 0 g.2.1),h,b,c] g.2.2).bind λa=>some (.aQ,([]:List D),a.2))
  (some (.aQ,([]:List D),g.2.2))).bind λa=>cI a.1 ((O tab .mul U (Z 0 d) (.int .i64 2)).bind λb=>some (.aQ,[b,(Z 0 g.2.1),(Z 1 g.2.1),h,f,(Z 2 g.2.1),i],a.2.2)) λb=>some ((bX 3 b),[(Z 0 d),(Z 0 g.2.1),(Z 1 g.2.1),h,f,(Z 2 g.2.1),i],a.2.2)) λa=>some ((bX 3 a),[(Z 0 d),(Z 0 g.2.1),(Z 1 g.2.1),(Z 3 d),f,(Z 2 g.2.1),(Z 6 d)],g.2.2))
  (some ((.ext 2),[(Z 0 d),(Z 1 d),(Z 2 d),(Z 3 d),f,(Z 5 d),(Z 6 d)],e))
def AY(a b c:D)(h:J):Option (D × J):=
 ((cA (AZ a b c (.int .i64 20)) [.int .i64 0,.int .i64 20,.any] h).bind λd=>some ((bX 0 d.1),[(Z 0 d.2.1),(Z 1 d.2.1),(Z 2 d.2.1)],d.2.2)).bind λd=>cI d.1 ((R rH [a,(Z 0 d.2.1),b,c] d.2.2).bind λe=>((cA (A0 a b c) [.int .i64 20,(Z 0 d.2.1),(Z 1 d.2.1),.any,.any,.any,.any] e.2).bind λa=>some ((bX 2 a.1),[(Z 0 a.2.1),(Z 1 a.2.1),(Z 2 a.2.1),(Z 3 a.2.1),(Z 4 a.2.1),(Z 5 a.2.1),(Z 6 a.2.1)],a.2.2)).bind λa=>dC a.1 (some (aF [],a.2.2))) λa=>dC a (some (aF [],d.2.2))
theorem Nd(a b c:D)(h:J):R yg [a,b,c] h=AY a b c h:=
 er EN
def JA(a b:D)(h:J):Option (D × J):=
 (R vh [a,b] h).bind λa=>some (aF [a.1],a.2)
theorem UQ(a b:D)(h:J):R N3 [a,b] h=JA a b h:=
 er EO
def IL(a:D)(h:J):Option (D × J):=
 (O tab .neq bH a a).bind λa=>some (aF [a],h)
theorem T8(a:D)(h:J):R x1 [a] h=IL a h:=
 er EP
def I1(a:D)(h:J):Option (D × J):=
 (O tab .geq cD a (.int .u8 97)).bind λb=>(W b true (some a)).bind λc=>(W b true (O tab .leq cD c (.int .u8 122))).bind λc=>(cV b c (.bool false)).bind λb=>(W b false (some a)).bind λc=>(W b false (O tab .geq cD c (.int .u8 65))).bind λc=>(W b false (some c)).bind λc=>(W c true (some a)).bind λa=>(W c true (O tab .leq cD a (.int .u8 90))).bind λa=>(W b false (cV c a (.bool false))).bind λa=>(cV b (.bool true) a).bind λa=>some (aF [a],h)
theorem Uk(a:D)(h:J):R x8 [a] h=I1 a h:=
 er ER
def I3(a:D)(h:J):Option (D × J):=
 (R Dg [a] h).bind λb=>(W b.1 false (some a)).bind λc=>(gQ b.1 false b.2 (R x8 [c] b.2)).bind λc=>(cV b.1 (.bool true) c.1).bind λb=>(W b false (some a)).bind λa=>(W b false (O tab .eql cD a (.int .u8 95))).bind λa=>(cV b (.bool true) a).bind λa=>some (aF [a],c.2)
theorem Um(a:D)(h:J):R Df [a] h=I3 a h:=
 er ET
def A3(a b c:D)(d:List D)(e:J):Option bK:=
 (O tab .gtr U (Z 0 d) b).bind λb=>(W b true (some c)).bind λc=>(W b true (some a)).bind λf=>(W b true (some (Z 0 d))).bind λg=>(W b true (aO tab bQ f g)).bind λf=>(W b true (Y tab e bE f)).bind λf=>(W b true (some a)).bind λg=>(W b true (some (Z 0 d))).bind λh=>(W b true (O tab .sub U h (.int .i64 1))).bind λh=>(W b true (aO tab bQ g h)).bind λg=>(W b true (Y tab e bE g)).bind λg=>(gQ b true e (hj R c [f,g] e)).bind λc=>(W b true (O tab .lss U c.1 (.int .i64 0))).bind λe=>(cV b e (.bool false)).bind λb=>S b
  ((O tab .sub U (Z 0 d) (.int .i64 1)).bind λe=>(O tab .sub U (Z 0 d) (.int .i64 1)).bind λf=>(aO tab bQ a f).bind λf=>(Y tab c.2 bE f).bind λf=>(aO tab bQ a (Z 0 d)).bind λg=>(Y tab c.2 bE g).bind λg=>(aO tab bQ a (Z 0 d)).bind λh=>((aS tab c.2 bE h f).bind λf=>some ((.bA:D),f)).bind λh=>(aO tab bQ a e).bind λa=>((aS tab h.2 bE a g).bind λf=>some ((.bA:D),f)).bind λa=>(O tab .sub U (Z 0 d) (.int .i64 1)).bind λe=>some (.aQ,[e,b],a.2))
  (some ((.ext 2),[(Z 0 d),b],c.2))
def A2(a b c d:D)(ds:List D)(e:J):Option bK:=
 (O tab .lss U (Z 0 ds) c).bind λc=>S c
  (((cA (A3 a b d) [(Z 0 ds),(Z 3 ds)] e).bind λa=>some ((bX 2 a.1),[(Z 0 a.2.1),(Z 1 a.2.1)],a.2.2)).bind λa=>cI (bX 1 a.1) ((O tab .add U (Z 0 ds) (.int .i64 1)).bind λb=>some (.aQ,[b,(Z 0 a.2.1),c,(Z 1 a.2.1)],a.2.2)) λb=>some (b,[(Z 0 ds),(Z 0 a.2.1),c,(Z 1 a.2.1)],a.2.2))
  (some ((.ext 0),[(Z 0 ds),(Z 1 ds),c,(Z 3 ds)],e))
def A1(a b c d:D)(h:J):Option (D × J):=
 (O tab .add U b (.int .i64 1)).bind λe=>((cA (A2 a b c d) [e,.any,.any,.any] h).bind λa=>some ((bX 0 a.1),[(Z 0 a.2.1),(Z 1 a.2.1),(Z 2 a.2.1),(Z 3 a.2.1)],a.2.2)).bind λa=>dC a.1 (some (aF [],a.2.2))
theorem Nf(a b c d:D)(h:J):R rH [a,b,c,d] h=A1 a b c d h:=
 er EU
def wO(a b c:D)(ds:List D)(d:J):Option bK:=
 (O tab .lss U (Z 0 ds) (Z 1 ds)).bind λe=>S e
  ((O tab .add U (Z 0 ds) (Z 1 ds)).bind λf=>(dT tab U hD f).bind λf=>(O tab .shr hD f (.int .u64 1)).bind λf=>(dT tab hD U f).bind λf=>(O tab .sub U c f).bind λc=>(aO tab bQ a c).bind λc=>(Y tab d bE c).bind λc=>(aO tab bQ a f).bind λa=>(Y tab d bE a).bind λa=>(hj R b [c,a] d).bind λa=>(O tab .lss U a.1 (.int .i64 0)).bind λb=>(fS .not b).bind λb=>(S b
  ((O tab .add U f (.int .i64 1)).bind λc=>some (.aQ,[c,(Z 1 ds)],a.2))
  (some (.aQ,[(Z 0 ds),f],a.2))).bind λa=>some ((bX 9 a.1),[(Z 0 a.2.1),(Z 1 a.2.1),f,e,b],a.2.2))
  (some ((.ext 8),[(Z 0 ds),(Z 1 ds),(Z 2 ds),e,(Z 4 ds)],d))
def uu(a b c d e:D)(f:J):Option (D × J):=
  (O tab .add U b d).bind λg=>(dT tab U hD g).bind λg=>(O tab .shr hD g (.int .u64 1)).bind λg=>(dT tab hD U g).bind λg=>(O tab .add U g c).bind λh=>(O tab .gtr U c g).bind λi=>(S i
   ((O tab .sub U h d).bind λi=>some (.aQ,[i,g],f))
   (some (.aQ,[b,c],f))).bind λf=>cI f.1 ((O tab .sub U h (.int .i64 1)).bind λi=>((cA (wO a e i) [(Z 0 f.2.1),(Z 1 f.2.1),.any,.any,.any] f.2.2).bind λi=>some ((bX 8 i.1),[(Z 0 i.2.1),(Z 1 i.2.1),(Z 2 i.2.1),(Z 3 i.2.1),(Z 4 i.2.1)],i.2.2)).bind λi=>cI i.1 ((O tab .sub U h (Z 0 i.2.1)).bind λh=>(O tab .lss U (Z 0 i.2.1) c).bind λj=>(W j true (some c)).bind λk=>(W j true (some h)).bind λl=>(W j true (O tab .lss U k l)).bind λk=>(cV j k (.bool false)).bind λj=>(S j
   ((R Dv [a,(Z 0 i.2.1),c,h,e] i.2.2).bind λc=>some (.aQ,([]:List D),c.2))
   (some (.aQ,([]:List D),i.2.2))).bind λc=>cI c.1 ((O tab .lss U b (Z 0 i.2.1)).bind λj=>(W j true (some (Z 0 i.2.1))).bind λk=>(W j true (some g)).bind λl=>(W j true (O tab .lss U k l)).bind λk=>(cV j k (.bool false)).bind λj=>(S j
   ((R qv [a,b,(Z 0 i.2.1),g,e] c.2.2).bind λb=>some (.aQ,([]:List D),b.2))
   (some (.aQ,([]:List D),c.2.2))).bind λb=>cI b.1 ((O tab .lss U g h).bind λj=>(W j true (some h)).bind λk=>(W j true (some d)).bind λl=>(W j true (O tab .lss U k l)).bind λk=>(cV j k (.bool false)).bind λj=>(S j
   ((R qv [a,g,h,d,e] b.2.2).bind λa=>some (.aQ,([]:List D),a.2))
   (some (.aQ,([]:List D),b.2.2))).bind λa=>dC a.1 (some (aF [],a.2.2))) λa=>dC a (some (aF [],b.2.2))) λa=>dC a (some (aF [],c.2.2))) λa=>dC a (some (aF [],i.2.2))) λa=>dC a (some (aF [],f.2.2))
def A4(a b c:D)(d:List D)(e:J):Option bK:=
 (O tab .lss U (Z 0 d) (Z 1 d)).bind λf=>S f
  ((O tab .add U (Z 0 d) (Z 1 d)).bind λg=>(dT tab U hD g).bind λg=>(O tab .shr hD g (.int .u64 1)).bind λg=>(dT tab hD U g).bind λg=>(aO tab bQ a b).bind λb=>(Y tab e bE b).bind λb=>(aO tab bQ a g).bind λa=>(Y tab e bE a).bind λa=>(hj R c [b,a] e).bind λa=>(O tab .lss U a.1 (.int .i64 0)).bind λb=>(fS .not b).bind λb=>(S b
  ((O tab .add U g (.int .i64 1)).bind λc=>some (.aQ,[c,(Z 1 d)],a.2))
  (some (.aQ,[(Z 0 d),g],a.2))).bind λa=>some ((bX 5 a.1),[(Z 0 a.2.1),(Z 1 a.2.1),g,f,b],a.2.2))
  (some ((.ext 4),[(Z 0 d),(Z 1 d),(Z 2 d),f,(Z 4 d)],e))
def A5(a:D)(b:bK)(c:List D)(d:J):Option bK:=
 (O tab .gtr U (Z 0 c) (Z 0 b.2.1)).bind λb=>S b
  ((O tab .sub U (Z 0 c) (.int .i64 1)).bind λe=>(O tab .sub U (Z 0 c) (.int .i64 1)).bind λf=>(aO tab bQ a f).bind λf=>(Y tab d bE f).bind λf=>(aO tab bQ a (Z 0 c)).bind λg=>(Y tab d bE g).bind λg=>(aO tab bQ a (Z 0 c)).bind λh=>((aS tab d bE h f).bind λf=>some ((.bA:D),f)).bind λh=>(aO tab bQ a e).bind λa=>((aS tab h.2 bE a g).bind λf=>some ((.bA:D),f)).bind λa=>(O tab .sub U (Z 0 c) (.int .i64 1)).bind λe=>some (.aQ,[e,b],a.2))
  (some ((.ext 6),[(Z 0 c),b],d))
def ur(a b c d e:D)(f:J):Option (D × J):=
  (O tab .sub U d c).bind λg=>(O tab .eql U g (.int .i64 1)).bind λg=>S g
   (((cA (A4 a c e) [b,c,.any,.any,.any] f).bind λg=>some ((bX 4 g.1),[(Z 0 g.2.1),(Z 1 g.2.1),(Z 2 g.2.1),(Z 3 g.2.1),(Z 4 g.2.1)],g.2.2)).bind λg=>cI g.1 (((cA (A5 a g) [c,.any] g.2.2).bind λh=>some ((bX 6 h.1),[(Z 0 h.2.1),(Z 1 h.2.1)],h.2.2)).bind λh=>cI h.1 (some (aF [],h.2.2)) λi=>cI i (uu a b c d e h.2.2) λi=>dC i (some (aF [],h.2.2))) λh=>cI h (uu a b c d e g.2.2) λh=>dC h (some (aF [],g.2.2)))
   (uu a b c d e f)
def A6(a b c:D)(d:List D)(e:J):Option bK:=
 (O tab .lss U (Z 0 d) (Z 1 d)).bind λf=>S f
  ((O tab .add U (Z 0 d) (Z 1 d)).bind λg=>(dT tab U hD g).bind λg=>(O tab .shr hD g (.int .u64 1)).bind λg=>(dT tab hD U g).bind λg=>(aO tab bQ a g).bind λh=>(Y tab e bE h).bind λh=>(aO tab bQ a b).bind λa=>(Y tab e bE a).bind λa=>(hj R c [h,a] e).bind λa=>(O tab .lss U a.1 (.int .i64 0)).bind λb=>(S b
  ((O tab .add U g (.int .i64 1)).bind λc=>some (.aQ,[c,(Z 1 d)],a.2))
  (some (.aQ,[(Z 0 d),g],a.2))).bind λa=>some ((bX 1 a.1),[(Z 0 a.2.1),(Z 1 a.2.1),g,f,b],a.2.2))
  (some ((.ext 0),[(Z 0 d),(Z 1 d),(Z 2 d),f,(Z 4 d)],e))
def A7(a:D)(b:bK)(c:List D)(d:J):Option bK:=
 (O tab .sub U (Z 0 b.2.1) (.int .i64 1)).bind λb=>(O tab .lss U (Z 0 c) b).bind λb=>S b
  ((O tab .add U (Z 0 c) (.int .i64 1)).bind λe=>(O tab .add U (Z 0 c) (.int .i64 1)).bind λf=>(aO tab bQ a f).bind λf=>(Y tab d bE f).bind λf=>(aO tab bQ a (Z 0 c)).bind λg=>(Y tab d bE g).bind λg=>(aO tab bQ a (Z 0 c)).bind λh=>((aS tab d bE h f).bind λf=>some ((.bA:D),f)).bind λh=>(aO tab bQ a e).bind λa=>((aS tab h.2 bE a g).bind λf=>some ((.bA:D),f)).bind λa=>(O tab .add U (Z 0 c) (.int .i64 1)).bind λe=>some (.aQ,[e,b],a.2))
  (some ((.ext 2),[(Z 0 c),b],d))
def wN(a b c d e:D)(h:J):Option (D × J):=
 (O tab .sub U c b).bind λf=>(O tab .eql U f (.int .i64 1)).bind λf=>S f
  (((cA (A6 a b e) [c,d,.any,.any,.any] h).bind λf=>some ((bX 0 f.1),[(Z 0 f.2.1),(Z 1 f.2.1),(Z 2 f.2.1),(Z 3 f.2.1),(Z 4 f.2.1)],f.2.2)).bind λf=>cI f.1 (((cA (A7 a f) [b,.any] f.2.2).bind λg=>some ((bX 2 g.1),[(Z 0 g.2.1),(Z 1 g.2.1)],g.2.2)).bind λg=>cI g.1 (some (aF [],g.2.2)) λi=>cI i (ur a b c d e g.2.2) λi=>dC i (some (aF [],g.2.2))) λg=>cI g (ur a b c d e f.2.2) λg=>dC g (some (aF [],f.2.2)))
  (ur a b c d e h)
theorem CR(a b c d e:D)(h:J):R qv [a,b,c,d,e] h=wN a b c d e h:=
 er EV
def I4(a:D)(h:J):Option (D × J):=
 (O tab .geq cD a (.int .u8 48)).bind λb=>(W b true (some a)).bind λa=>(W b true (O tab .leq cD a (.int .u8 57))).bind λa=>(cV b a (.bool false)).bind λa=>some (aF [a],h)
theorem Un(a:D)(h:J):R Dg [a] h=I4 a h:=
 er EW
def JC(a b c:D)(ds:List D)(d:J):Option bK:=
 (O tab .neq U (Z 0 ds) (Z 1 ds)).bind λe=>S e
  ((O tab .gtr U (Z 0 ds) (Z 1 ds)).bind λf=>(S f
  ((O tab .sub U b (Z 0 ds)).bind λg=>(R vi [a,g,b,(Z 1 ds),c] d).bind λg=>(O tab .sub U (Z 0 ds) (Z 1 ds)).bind λh=>some (.aQ,[h,(Z 1 ds)],g.2))
  ((O tab .sub U b (Z 0 ds)).bind λg=>(O tab .add U b (Z 1 ds)).bind λb=>(O tab .sub U b (Z 0 ds)).bind λb=>(R vi [a,g,b,(Z 0 ds),c] d).bind λa=>(O tab .sub U (Z 1 ds) (Z 0 ds)).bind λb=>some (.aQ,[(Z 0 ds),b],a.2))).bind λa=>some ((bX 1 a.1),[(Z 0 a.2.1),(Z 1 a.2.1),e,f],a.2.2))
  (some ((.ext 0),[(Z 0 ds),(Z 1 ds),e,(Z 3 ds)],d))
def JB(a b c d e:D)(h:J):Option (D × J):=
 (O tab .sub U c b).bind λb=>(O tab .sub U d c).bind λd=>((cA (JC a c e) [b,d,.any,.any] h).bind λb=>some ((bX 0 b.1),[(Z 0 b.2.1),(Z 1 b.2.1),(Z 2 b.2.1),(Z 3 b.2.1)],b.2.2)).bind λb=>cI b.1 ((O tab .sub U c (Z 0 b.2.1)).bind λd=>(R vi [a,d,c,(Z 0 b.2.1),e] b.2.2).bind λa=>some (aF [],a.2)) λa=>dC a (some (aF [],b.2.2))
theorem UR(a b c d e:D)(h:J):R Dv [a,b,c,d,e] h=JB a b c d e h:=
 er EX
def JE(a b c d:D)(ds:List D)(e:J):Option bK:=
 (O tab .lss U (Z 0 ds) d).bind λd=>S d
  ((O tab .add U b (Z 0 ds)).bind λf=>(O tab .add U c (Z 0 ds)).bind λg=>(O tab .add U c (Z 0 ds)).bind λc=>(aO tab bQ a c).bind λc=>(Y tab e bE c).bind λc=>(O tab .add U b (Z 0 ds)).bind λb=>(aO tab bQ a b).bind λb=>(Y tab e bE b).bind λb=>(aO tab bQ a f).bind λf=>((aS tab e bE f c).bind λc=>some ((.bA:D),c)).bind λf=>(aO tab bQ a g).bind λa=>((aS tab f.2 bE a b).bind λc=>some ((.bA:D),c)).bind λa=>(O tab .add U (Z 0 ds) (.int .i64 1)).bind λb=>some (.aQ,[b,d],a.2))
  (some ((.ext 0),[(Z 0 ds),d],e))
def JD(a b c d e:D)(h:J):Option (D × J):=
 ((cA (JE a b c d) [.int .i64 0,.any] h).bind λa=>some ((bX 0 a.1),[(Z 0 a.2.1),(Z 1 a.2.1)],a.2.2)).bind λa=>dC a.1 (some (aF [],a.2.2))
theorem US(a b c d e:D)(h:J):R vi [a,b,c,d,e] h=JD a b c d e h:=
 er EY
def Kx(a b:D)(h:J):Option (D × J):=
 (R py [a,.int .i64 4] h).bind λb=>(R qx [b.1] b.2).bind λb=>(dT tab eG U b.1).bind λc=>(dS tab a).bind λd=>(aB tab hR 1 d).bind λd=>(Y tab b.2 iZ d).bind λd=>(W d false (some c)).bind λe=>(W d false (some a)).bind λf=>(W d false (dS tab f)).bind λf=>(W d false (aB tab hR 0 f)).bind λf=>(W d false (Y tab b.2 aP f)).bind λf=>(W d false (bC tab aP f)).bind λf=>(W d false (O tab .quo U f (.int .i64 8))).bind λf=>(W d false (O tab .gtr U e f)).bind λe=>(cV d (.bool true) e).bind λd=>S d
  ((dS tab a).bind λa=>(aB tab hR 1 a).bind λa=>((aS tab b.2 iZ a (.bool true)).bind λa=>some ((.bA:D),a)).bind λa=>some (aF [.int .i64 0],a.2))
  (some (aF [c],b.2))
theorem Vx(a b:D)(h:J):R yv [a,b] h=Kx a b h:=
 er E1
def Ky(a b:D)(h:J):Option (D × J):=
 (R py [a,.int .i64 8] h).bind λa=>(R qx [a.1] a.2).bind λa=>(dT tab eG U a.1).bind λc=>(dS tab b).bind λb=>((aS tab a.2 U b c).bind λa=>some ((.bA:D),a)).bind λa=>some (aF [],a.2)
theorem Vy(a b:D)(h:J):R yw [a,b] h=Ky a b h:=
 er E2
def Kz(a b:D)(h:J):Option (D × J):=
 (R py [a,.int .i64 4] h).bind λc=>(R qx [c.1] c.2).bind λc=>(dT tab eG U c.1).bind λd=>(R py [a,d] c.2).bind λc=>(dS tab a).bind λa=>(aB tab hR 1 a).bind λa=>(Y tab c.2 iZ a).bind λa=>(fS .not a).bind λa=>(S a
  ((qm c.2 c.1).bind λa=>(dS tab b).bind λb=>((aS tab c.2 bH b a).bind λa=>some ((.bA:D),a)).bind λa=>some (.aQ,([]:List D),a.2))
  (some (.aQ,([]:List D),c.2))).bind λa=>dC a.1 (some (aF [],a.2.2))
theorem Vz(a b:D)(h:J):R yx [a,b] h=Kz a b h:=
 er E3
def KA(a b:D)(h:J):Option (D × J):=
 (dS tab a).bind λc=>(aB tab hR 1 c).bind λc=>(Y tab h iZ c).bind λc=>(W c false (some b)).bind λd=>(W c false (O tab .lss U d (.int .i64 0))).bind λd=>(cV c (.bool true) d).bind λc=>(W c false (some b)).bind λd=>(W c false (some a)).bind λe=>(W c false (dS tab e)).bind λe=>(W c false (aB tab hR 0 e)).bind λe=>(W c false (Y tab h aP e)).bind λe=>(W c false (bC tab aP e)).bind λe=>(W c false (O tab .gtr U d e)).bind λd=>(cV c (.bool true) d).bind λc=>S c
  ((dS tab a).bind λc=>(aB tab hR 1 c).bind λc=>((aS tab h iZ c (.bool true)).bind λc=>some ((.bA:D),c)).bind λd=>some (aF [.aA],d.2))
  ((dS tab a).bind λd=>(aB tab hR 0 d).bind λd=>(Y tab h aP d).bind λd=>(eN tab aP false true false [d,b]).bind λd=>(dS tab a).bind λe=>(aB tab hR 0 e).bind λe=>(Y tab h aP e).bind λe=>(eN tab aP true false false [e,b]).bind λb=>(dS tab a).bind λa=>(aB tab hR 0 a).bind λa=>((aS tab h aP a b).bind λc=>some ((.bA:D),c)).bind λa=>some (aF [d],a.2))
theorem VA(a b:D)(h:J):R py [a,b] h=KA a b h:=
 er E4
def Ku(a b:D)(h:J):Option (D × J):=
 (dS tab a).bind λc=>(aB tab jm 0 c).bind λc=>(Y tab h aP c).bind λc=>(dT tab U eG b).bind λd=>(R mZ [c,d,.int .i64 4] h).bind λc=>(dS tab a).bind λa=>(aB tab jm 0 a).bind λa=>((aS tab c.2 aP a c.1).bind λa=>some ((.bA:D),a)).bind λa=>some (aF [b],a.2)
theorem Vu(a b:D)(h:J):R DB [a,b] h=Ku a b h:=
 er E5
def Kv(a b:D)(h:J):Option (D × J):=
 (dS tab a).bind λc=>(aB tab jm 0 c).bind λc=>(Y tab h aP c).bind λc=>(dS tab b).bind λb=>(Y tab h U b).bind λb=>(dT tab U eG b).bind λb=>(R mZ [c,b,.int .i64 8] h).bind λb=>(dS tab a).bind λa=>(aB tab jm 0 a).bind λa=>((aS tab b.2 aP a b.1).bind λa=>some ((.bA:D),a)).bind λa=>some (aF [],a.2)
theorem Vv(a b:D)(h:J):R DC [a,b] h=Kv a b h:=
 er E6
def Kw(a b:D)(h:J):Option (D × J):=
 (dS tab a).bind λc=>(aB tab jm 0 c).bind λc=>(Y tab h aP c).bind λc=>(dS tab b).bind λd=>(Y tab h bH d).bind λd=>(bC tab bH d).bind λd=>(dT tab U eG d).bind λd=>(R mZ [c,d,.int .i64 4] h).bind λc=>(dS tab b).bind λb=>(Y tab c.2 bH b).bind λd=>(dB tab c.2 aP bH c.1 d).bind λc=>(dS tab a).bind λa=>(aB tab jm 0 a).bind λa=>((aS tab c.2 aP a c.1).bind λa=>some ((.bA:D),a)).bind λa=>dY (Y tab h bH b=some d)
 (some (aF [],a.2))
theorem Vw(a b:D)(h:J):R DD [a,b] h=Kw a b h:=
 er E8
end
@[simp] theorem fm {α:Type} {f:α→List D} {l:List α} {d:D} (h:aI 1 f l d):bC tab aP d=some (.int .i64 l.length):=
 by
  rcases h with⟨rfl,rfl⟩|⟨a,rfl⟩
  ·rfl
  ·show some (D.int .i64 ((l.map f).length:Nat))=_;simp
theorem a1w{h:J}{n0 e z:Nat}{rows:List (List D)}{d:D}(a:aR h n0 e z rows d):bC tab aP d=some (.int .i64 rows.length):=by
 rcases a with⟨rfl,rfl⟩|⟨b,_,rfl,_⟩<;>rfl
@[simp] theorem a7v(z:Nat)(f:Bool)(rows:List (List D)):bC tab aP (.sl z f rows)=some (.int .i64 rows.length):=id rfl
@[simp] theorem GW(z o r n:Nat):bC tab aP (.aZ z o r n)=some (.int .i64 n):=id rfl
@[simp] theorem a7w:bC tab aP .aA=some (.int .i64 0):=id rfl
theorem r6{h:J}{n0:Nat}(e:n0≤h.length){rows:List (List D)}{x y:D}(g:aR h n0 cD 1 rows x){ys:List (List D)}(l:gA h 1 y=some ys)(d:(rows.length+ys.length)*1≤140737488355328){c:Type}{f:D × J→Option c}{Q:c→Prop}
  (k:∀b h',aR h' n0 cD 1 (rows++ys) b→h.length≤h'.length→(∀a,a<n0→h'[a]?=h[a]?)→(∀a,a<h.length→¬x.eC a→h'[a]?=h[a]?)→(∀a,b.eC a→x.eC a∨h.length≤a)→Wp (f (b,h')) Q):Wp ((dB tab h aP aP x y).bind f) Q:=
 oA (T:=tab) (i:=iK) (j:=iE) (id rfl) (id rfl) (id rfl) (by decide) e g l (jD d (by omega)) k
@[simp] theorem a0i(f:Bool)(rows:List (List D))(i:Int):aO tab aP (.sl 1 f rows) (.int .i64 i)=if 0≤i then(rows[i.toNat]?).map .aE else none:=by show(if 1=1∧0≤i then(match rows[i.toNat]? with|some b=>some (D.aE b)|none=>none)else none)=_;by_cases a:0≤i<;>simp[a]<;>cases rows[i.toNat]?<;>rfl
@[simp] theorem vI(o r n:Nat)(i:Int):aO tab aP (.aZ 1 o r n) (.int .i64 i)=if 0≤i∧i<n then some (.ptr o (r+i.toNat) 0)else none:=by show(if 1=1∧0≤i∧i<n then some (D.ptr o (r+i.toNat) 0)else none)=_;simp
@[simp] theorem kh {α:Type} {f:α→List D} {l:List α} {d:D} (h:aI 1 f l d) (i:Int):aO tab aP d (.int .i64 i)=if 0≤i then(l[i.toNat]?).map λp =>.aE (f p)else none:=
 by
  rcases h with⟨rfl,rfl⟩|⟨a,rfl⟩
  ·show none=_;simp
  ·rw[a0i];simp[kY]
@[simp] theorem tw(c:D)(cs:List D)(h:J):Y tab h cD (.aE (c::cs))=some c:=id rfl
@[simp] theorem zh(h:J)(o k f:Nat):Y tab h cD (.ptr o k f)=(h.row o k).bind λrow=>(row.drop f).head?:=by show(match h.row o k with|some row=>_|none=>none)=_;cases h.row o k<;>rfl
theorem a6X{h:J}{o T V kk off:Nat}{rows:List (List D)}{row:List D}{v:D}(d:h[o]?=some (.row T V rows))(e:rows[kk]?=some row)(g:(cX v).length=1)(c:off+1≤row.length)(b:v.fo=true){a:Type}{f:J→Option a}{Q:a→Prop}
  (k:∀h',h'[o]?=some (.row T V (rows.set kk (dZ row off (cX v))))→bM o h h'→Wp (f h') Q):Wp ((aS tab h cD (.ptr o kk off) v).bind f) Q:=
 by rw[show aS tab h cD (.ptr o kk off) v=jw 1 h (.ptr o kk off) v from rfl];exact kx d e g c b k
theorem m8{h:J}{o T V kk off:Nat}{rows:List (List D)}{row:List D}{v:D}(d:h[o]?=some (.row T V rows))(e:rows[kk]?=some row)(g:(cX v).length=2)(c:off+2≤row.length)(b:v.fo=true){a:Type}{f:J→Option a}{Q:a→Prop}
  (k:∀h',h'[o]?=some (.row T V (rows.set kk (dZ row off (cX v))))→bM o h h'→Wp (f h') Q):Wp ((aS tab h aX (.ptr o kk off) v).bind f) Q:=
 by rw[show aS tab h aX (.ptr o kk off) v=jw 2 h (.ptr o kk off) v from rfl];exact kx d e g c b k
theorem rY{α:Type}{f:α→List D}{l:List α}{d:D}(c:aI 1 f l d){k:IntKind}{n:Int}(a:0≤n)(b:n≤l.length):
  ∃d',eN tab aP false true false [d,.int k n]=some d'∧aI 1 f (l.take n.toNat) d':=HV (T:=tab) (i:=iK) (j:=iE) (id rfl) (id rfl) (id rfl) (id rfl) c a b
@[simp] theorem SC(h:J)(a:D)(b:D)(c:D)(d:D)(e:a.one=true)(f:b.one=true)(h2:c.one=true)(g:d.one=true):Ap tab h gC 4 [0,1,2,3] [a,b,c,d]=some (.aZ 1 h.length 0 4,aG h aP 1 [[a],[b],[c],[d]]):=a1H (T:=tab) (t:=gC) (n:=4) (i:=qS) (j:=iK) (id rfl) (id rfl) (id rfl) (id rfl) h [a,b,c,d] rfl (by decide) (by simp[e,f,h2,g])
@[simp] theorem GY {α:Type} {f:α→List D} {l:List α} {d:D} (h:aI 1 f l d):bC tab gC d=some (.int .i64 l.length):=
 by
  rcases h with⟨rfl,rfl⟩|⟨a,rfl⟩
  ·rfl
  ·show some (D.int .i64 ((l.map f).length:Nat))=_;simp
@[simp] theorem a1n(z o r n:Nat):bC tab gC (.aZ z o r n)=some (.int .i64 n):=id rfl
@[simp] theorem a0d(f:Bool)(rows:List (List D))(i:Int):aO tab gC (.sl 1 f rows) (.int .i64 i)=if 0≤i then(rows[i.toNat]?).map .aE else none:=by show(if 1=1∧0≤i then(match rows[i.toNat]? with|some b=>some (D.aE b)|none=>none)else none)=_;by_cases a:0≤i<;>simp[a]<;>cases rows[i.toNat]?<;>rfl
@[simp] theorem a0o(o r n:Nat)(i:Int):aO tab gC (.aZ 1 o r n) (.int .i64 i)=if 0≤i∧i<n then some (.ptr o (r+i.toNat) 0)else none:=by show(if 1=1∧0≤i∧i<n then some (D.ptr o (r+i.toNat) 0)else none)=_;simp
@[simp] theorem y8 {α:Type} {f:α→List D} {l:List α} {d:D} (h:aI 1 f l d) (i:Int):aO tab gC d (.int .i64 i)=if 0≤i then(l[i.toNat]?).map λp =>.aE (f p)else none:=
 by
  rcases h with⟨rfl,rfl⟩|⟨a,rfl⟩
  ·show none=_;simp
  ·rw[a0d];simp[kY]
@[simp] theorem GO(c:D)(cs:List D)(h:J):Y tab h aP (.aE (c::cs))=some c:=id rfl
@[simp] theorem zf(h:J)(o k f:Nat):Y tab h aP (.ptr o k f)=(h.row o k).bind λrow=>(row.drop f).head?:=by show(match h.row o k with|some row=>_|none=>none)=_;cases h.row o k<;>rfl
@[simp] theorem m1(h:J)(o k f:Nat):Y tab h aX (.ptr o k f)=(h.row o k).bind λrow=>nW 2 (row.drop f):=by show(match h.row o k with|some row=>_|none=>none)=_;cases h.row o k<;>rfl
@[simp] theorem a1y {α:Type} {f:α→List D} {l:List α} {d:D} (h:aI 2 f l d):bC tab qU d=some (.int .i64 l.length):=
 by
  rcases h with⟨rfl,rfl⟩|⟨a,rfl⟩
  ·rfl
  ·show some (D.int .i64 ((l.map f).length:Nat))=_;simp
@[simp] theorem a0h(f:Bool)(rows:List (List D))(i:Int):aO tab qU (.sl 2 f rows) (.int .i64 i)=if 0≤i then(rows[i.toNat]?).map .aE else none:=by show(if 2=2∧0≤i then(match rows[i.toNat]? with|some b=>some (D.aE b)|none=>none)else none)=_;by_cases a:0≤i<;>simp[a]<;>cases rows[i.toNat]?<;>rfl
@[simp] theorem a0u {α:Type} {f:α→List D} {l:List α} {d:D} (h:aI 2 f l d) (i:Int):aO tab qU d (.int .i64 i)=if 0≤i then(l[i.toNat]?).map λp =>.aE (f p)else none:=
 by
  rcases h with⟨rfl,rfl⟩|⟨a,rfl⟩
  ·show none=_;simp
  ·rw[a0h];simp[kY]
@[simp] theorem a1x {α:Type} {f:α→List D} {l:List α} {d:D} (h:aI 3 f l d):bC tab jl d=some (.int .i64 l.length):=
 by
  rcases h with⟨rfl,rfl⟩|⟨a,rfl⟩
  ·rfl
  ·show some (D.int .i64 ((l.map f).length:Nat))=_;simp
theorem a1u{h:J}{n0 e z:Nat}{rows:List (List D)}{d:D}(a:aR h n0 e z rows d):bC tab jl d=some (.int .i64 rows.length):=by
 rcases a with⟨rfl,rfl⟩|⟨b,_,rfl,_⟩<;>rfl
@[simp] theorem a0e(f:Bool)(rows:List (List D))(i:Int):aO tab jl (.sl 3 f rows) (.int .i64 i)=if 0≤i then(rows[i.toNat]?).map .aE else none:=by show(if 3=3∧0≤i then(match rows[i.toNat]? with|some b=>some (D.aE b)|none=>none)else none)=_;by_cases a:0≤i<;>simp[a]<;>cases rows[i.toNat]?<;>rfl
@[simp] theorem a0p(o r n:Nat)(i:Int):aO tab jl (.aZ 3 o r n) (.int .i64 i)=if 0≤i∧i<n then some (.ptr o (r+i.toNat) 0)else none:=by show(if 3=3∧0≤i∧i<n then some (D.ptr o (r+i.toNat) 0)else none)=_;simp
@[simp] theorem a0s {α:Type} {f:α→List D} {l:List α} {d:D} (h:aI 3 f l d) (i:Int):aO tab jl d (.int .i64 i)=if 0≤i then(l[i.toNat]?).map λp =>.aE (f p)else none:=
 by
  rcases h with⟨rfl,rfl⟩|⟨a,rfl⟩
  ·show none=_;simp
  ·rw[a0e];simp[kY]
@[simp] theorem vQ(h:J)(o k f:Nat):Y tab h bP (.ptr o k f)=(h.row o k).bind λrow=>nW 3 (row.drop f):=by show(match h.row o k with|some row=>_|none=>none)=_;cases h.row o k<;>rfl
@[simp] theorem lx(k:IntKind)(n:Int):dT tab U eG (.int k n)=some (.int .u64 (IntKind.wrap .u64 n)):=id rfl
@[simp] theorem CE(k:IntKind)(n:Int):dT tab fK eG (.int k n)=some (.int .u64 (IntKind.wrap .u64 n)):=id rfl
@[simp] theorem L4 (b:D) (c:b.one=true):eD tab kU [0] [b]=some (.agg [b,.int .i64 0]):=by
 have a:=fT c;refine sJ (T:=tab) (i:=Ad) (fs:=[(22,0,1),(3,1,1)]) (id rfl) (id rfl) ?_;rw[show Ad.zero=[.aA,.int .i64 0]from id rfl];rw[oN (off:=0) (V:=1) (id rfl) (by rw[a.1];rfl) (by simp[dZ,oE,oF,oD,oC]) a.2,a.1];exact id rfl
@[simp] theorem C1(a:D)(cs:List D):aB tab aX 0 (.aE (a::cs))=some (.aE (a::cs)):=id rfl
@[simp] theorem xO(o k f:Nat):aB tab aX 0 (.ptr o k f)=some (.ptr o k (f+0)):=id rfl
@[simp] theorem GN(c:D)(cs:List D)(h:J):Y tab h dV (.aE (c::cs))=some c:=id rfl
@[simp] theorem zd(h:J)(o k f:Nat):Y tab h dV (.ptr o k f)=(h.row o k).bind λrow=>(row.drop f).head?:=by show(match h.row o k with|some row=>_|none=>none)=_;cases h.row o k<;>rfl
@[simp] theorem L3(n0:Int)(a:Int)(b:Int):eD tab eO [0,1,2] [.int .i64 n0,.int .i64 a,.int .i64 b]=some (.agg [.int .i64 n0,.int .i64 a,.int .i64 b]):=id rfl
@[simp] theorem L8(a b c:D):dL tab dV 1 [0] [.agg [a,b,c]]=some (.sl 3 true [[a,b,c]]):=id rfl
theorem Aq{h:J}{n0:Nat}(e:n0≤h.length){rows:List (List D)}{x y:D}(g:aR h n0 eO 3 rows x){ys:List (List D)}(l:gA h 3 y=some ys)(d:(rows.length+ys.length)*24≤140737488355328){c:Type}{f:D × J→Option c}{Q:c→Prop}
  (k:∀b h',aR h' n0 eO 3 (rows++ys) b→h.length≤h'.length→(∀a,a<n0→h'[a]?=h[a]?)→(∀a,a<h.length→¬x.eC a→h'[a]?=h[a]?)→(∀a,b.eC a→x.eC a∨h.length≤a)→Wp (f (b,h')) Q):Wp ((dB tab h dV dV x y).bind f) Q:=
 oA (T:=tab) (i:=r4) (j:=kR) (id rfl) (id rfl) (id rfl) (by decide) e g l (jD d (by omega)) k
theorem Aw{h:J}{o T V kk off:Nat}{rows:List (List D)}{row:List D}{v:D}(d:h[o]?=some (.row T V rows))(e:rows[kk]?=some row)(g:(cX v).length=1)(c:off+1≤row.length)(b:v.fo=true){a:Type}{f:J→Option a}{Q:a→Prop}
  (k:∀h',h'[o]?=some (.row T V (rows.set kk (dZ row off (cX v))))→bM o h h'→Wp (f h') Q):Wp ((aS tab h dV (.ptr o kk off) v).bind f) Q:=
 by rw[show aS tab h dV (.ptr o kk off) v=jw 1 h (.ptr o kk off) v from rfl];exact kx d e g c b k
@[simp] theorem Wt(b a:D)(cs:List D):aB tab aX 1 (.aE (b::a::cs))=some (.aE (a::cs)):=id rfl
@[simp] theorem uX(o k f:Nat):aB tab aX 1 (.ptr o k f)=some (.ptr o k (f+1)):=id rfl
theorem Iz{h:J}{o T V kk off:Nat}{rows:List (List D)}{row:List D}{v:D}(d:h[o]?=some (.row T V rows))(e:rows[kk]?=some row)(g:(cX v).length=1)(c:off+1≤row.length)(b:v.fo=true){a:Type}{f:J→Option a}{Q:a→Prop}
  (k:∀h',h'[o]?=some (.row T V (rows.set kk (dZ row off (cX v))))→bM o h h'→Wp (f h') Q):Wp ((aS tab h dN (.ptr o kk off) v).bind f) Q:=
 by rw[show aS tab h dN (.ptr o kk off) v=jw 1 h (.ptr o kk off) v from rfl];exact kx d e g c b k
theorem uf{h:J}{o T V kk off:Nat}{rows:List (List D)}{row:List D}{v:D}(d:h[o]?=some (.row T V rows))(e:rows[kk]?=some row)(g:(cX v).length=3)(c:off+3≤row.length)(b:v.fo=true){a:Type}{f:J→Option a}{Q:a→Prop}
  (k:∀h',h'[o]?=some (.row T V (rows.set kk (dZ row off (cX v))))→bM o h h'→Wp (f h') Q):Wp ((aS tab h bP (.ptr o kk off) v).bind f) Q:=
 by rw[show aS tab h bP (.ptr o kk off) v=jw 3 h (.ptr o kk off) v from rfl];exact kx d e g c b k
theorem ud{h:J}{n0:Nat}(e:n0≤h.length){rows:List (List D)}{x y:D}(g:aR h n0 aC 10 rows x){ys:List (List D)}(l:gA h 10 y=some ys)(d:(rows.length+ys.length)*128≤140737488355328){c:Type}{f:D × J→Option c}{Q:c→Prop}
  (k:∀b h',aR h' n0 aC 10 (rows++ys) b→h.length≤h'.length→(∀a,a<n0→h'[a]?=h[a]?)→(∀a,a<h.length→¬x.eC a→h'[a]?=h[a]?)→(∀a,b.eC a→x.eC a∨h.length≤a)→Wp (f (b,h')) Q):Wp ((dB tab h dX dX x y).bind f) Q:=
 oA (T:=tab) (i:=wy) (j:=wx) (id rfl) (id rfl) (id rfl) (by decide) e g l (jD d (by omega)) k
@[simp] theorem vU {α:Type} {f:α→List D} {l:List α} {d:D} (h:aI 10 f l d):bC tab dX d=some (.int .i64 l.length):=
 by
  rcases h with⟨rfl,rfl⟩|⟨a,rfl⟩
  ·rfl
  ·show some (D.int .i64 ((l.map f).length:Nat))=_;simp
@[simp] theorem a1p(z o r n:Nat):bC tab dX (.aZ z o r n)=some (.int .i64 n):=id rfl
@[simp] theorem a1t:bC tab dX .aA=some (.int .i64 0):=id rfl
@[simp] theorem a0l(f:Bool)(rows:List (List D))(i:Int):aO tab dX (.sl 10 f rows) (.int .i64 i)=if 0≤i then(rows[i.toNat]?).map .aE else none:=by show(if 10=10∧0≤i then(match rows[i.toNat]? with|some b=>some (D.aE b)|none=>none)else none)=_;by_cases a:0≤i<;>simp[a]<;>cases rows[i.toNat]?<;>rfl
@[simp] theorem y7(o r n:Nat)(i:Int):aO tab dX (.aZ 10 o r n) (.int .i64 i)=if 0≤i∧i<n then some (.ptr o (r+i.toNat) 0)else none:=by show(if 10=10∧0≤i∧i<n then some (D.ptr o (r+i.toNat) 0)else none)=_;simp
@[simp] theorem vJ {α:Type} {f:α→List D} {l:List α} {d:D} (h:aI 10 f l d) (i:Int):aO tab dX d (.int .i64 i)=if 0≤i then(l[i.toNat]?).map λp =>.aE (f p)else none:=
 by
  rcases h with⟨rfl,rfl⟩|⟨a,rfl⟩
  ·show none=_;simp
  ·rw[a0l];simp[kY]
@[simp] theorem tA(h:J)(o k f:Nat):Y tab h aC (.ptr o k f)=(h.row o k).bind λrow=>nW 10 (row.drop f):=by show(match h.row o k with|some row=>_|none=>none)=_;cases h.row o k<;>rfl
@[simp] theorem a1d(c:D)(cs:List D)(h:J):Y tab h dN (.aE (c::cs))=some c:=id rfl
@[simp] theorem O3(h:J)(o k f:Nat):Y tab h dN (.ptr o k f)=(h.row o k).bind λrow=>(row.drop f).head?:=by show(match h.row o k with|some row=>_|none=>none)=_;cases h.row o k<;>rfl
@[simp] theorem MH(k:IntKind)(n:Int):dT tab U fK (.int k n)=some (.int .u32 (IntKind.wrap .u32 n)):=id rfl
@[simp] theorem Ss(a:D)(b:D)(c:D)(d:D)(e:a.one=true)(f:b.one=true)(h2:c.one=true)(g:d.one=true):dL tab gC 4 [0,1,2,3] [a,b,c,d]=some (.sl 1 true [[a],[b],[c],[d]]):=tC (T:=tab) (t:=gC) (n:=4) (i:=qS) (j:=iK) (id rfl) (id rfl) (id rfl) (id rfl) [a,b,c,d] rfl (by decide) (by simp[e,f,h2,g])
@[simp] theorem Pb {α:Type} {f:α→List D} {l:List α} {d:D} (h:aI 1 f l d):bC tab kA d=some (.int .i64 l.length):=
 by
  rcases h with⟨rfl,rfl⟩|⟨a,rfl⟩
  ·rfl
  ·show some (D.int .i64 ((l.map f).length:Nat))=_;simp
@[simp] theorem Co(n0:Int)(a:Int):eD tab bP [0,1] [.int .i64 n0,.int .i64 a]=some (.agg [.int .i64 n0,.int .i64 a,.aA]):=id rfl
@[simp] theorem a0n(f:Bool)(rows:List (List D))(i:Int):aO tab iR (.sl 1 f rows) (.int .i64 i)=if 0≤i then(rows[i.toNat]?).map .aE else none:=by show(if 1=1∧0≤i then(match rows[i.toNat]? with|some b=>some (D.aE b)|none=>none)else none)=_;by_cases a:0≤i<;>simp[a]<;>cases rows[i.toNat]?<;>rfl
@[simp] theorem a0r(o r n:Nat)(i:Int):aO tab iR (.aZ 1 o r n) (.int .i64 i)=if 0≤i∧i<n then some (.ptr o (r+i.toNat) 0)else none:=by show(if 1=1∧0≤i∧i<n then some (D.ptr o (r+i.toNat) 0)else none)=_;simp
@[simp] theorem OI {α:Type} {f:α→List D} {l:List α} {d:D} (h:aI 1 f l d) (i:Int):aO tab iR d (.int .i64 i)=if 0≤i then(l[i.toNat]?).map λp =>.aE (f p)else none:=
 by
  rcases h with⟨rfl,rfl⟩|⟨a,rfl⟩
  ·show none=_;simp
  ·rw[a0n];simp[kY]
@[simp] theorem eU(c:D)(cs:List D)(h:J):Y tab h U (.aE (c::cs))=some c:=id rfl
@[simp] theorem iC(h:J)(o k f:Nat):Y tab h U (.ptr o k f)=(h.row o k).bind λrow=>(row.drop f).head?:=by show(match h.row o k with|some row=>_|none=>none)=_;cases h.row o k<;>rfl
@[simp] theorem a0f(f:Bool)(rows:List (List D))(i:Int):aO tab kA (.sl 1 f rows) (.int .i64 i)=if 0≤i then(rows[i.toNat]?).map .aE else none:=by show(if 1=1∧0≤i then(match rows[i.toNat]? with|some b=>some (D.aE b)|none=>none)else none)=_;by_cases a:0≤i<;>simp[a]<;>cases rows[i.toNat]?<;>rfl
@[simp] theorem a0t {α:Type} {f:α→List D} {l:List α} {d:D} (h:aI 1 f l d) (i:Int):aO tab kA d (.int .i64 i)=if 0≤i then(l[i.toNat]?).map λp =>.aE (f p)else none:=
 by
  rcases h with⟨rfl,rfl⟩|⟨a,rfl⟩
  ·show none=_;simp
  ·rw[a0f];simp[kY]
@[simp] theorem lE(c:D)(cs:List D)(h:J):Y tab h dO (.aE (c::cs))=some c:=id rfl
@[simp] theorem GS(h:J)(o k f:Nat):Y tab h dO (.ptr o k f)=(h.row o k).bind λrow=>(row.drop f).head?:=by show(match h.row o k with|some row=>_|none=>none)=_;cases h.row o k<;>rfl
@[simp] theorem pO {α:Type} {f:α→List D} {l:List α} {d:D} (h:aI 11 f l d):bC tab dO d=some (.int .i64 l.length):=
 by
  rcases h with⟨rfl,rfl⟩|⟨a,rfl⟩
  ·rfl
  ·show some (D.int .i64 ((l.map f).length:Nat))=_;simp
theorem a1v{h:J}{n0 e z:Nat}{rows:List (List D)}{d:D}(a:aR h n0 e z rows d):bC tab dO d=some (.int .i64 rows.length):=by
 rcases a with⟨rfl,rfl⟩|⟨b,_,rfl,_⟩<;>rfl
@[simp] theorem a0g(f:Bool)(rows:List (List D))(i:Int):aO tab dO (.sl 11 f rows) (.int .i64 i)=if 0≤i then(rows[i.toNat]?).map .aE else none:=by show(if 11=11∧0≤i then(match rows[i.toNat]? with|some b=>some (D.aE b)|none=>none)else none)=_;by_cases a:0≤i<;>simp[a]<;>cases rows[i.toNat]?<;>rfl
@[simp] theorem a0q(o r n:Nat)(i:Int):aO tab dO (.aZ 11 o r n) (.int .i64 i)=if 0≤i∧i<n then some (.ptr o (r+i.toNat) 0)else none:=by show(if 11=11∧0≤i∧i<n then some (D.ptr o (r+i.toNat) 0)else none)=_;simp
@[simp] theorem qD {α:Type} {f:α→List D} {l:List α} {d:D} (h:aI 11 f l d) (i:Int):aO tab dO d (.int .i64 i)=if 0≤i then(l[i.toNat]?).map λp =>.aE (f p)else none:=
 by
  rcases h with⟨rfl,rfl⟩|⟨a,rfl⟩
  ·show none=_;simp
  ·rw[a0g];simp[kY]
@[simp] theorem pM(h:J)(o k f:Nat):Y tab h aH (.ptr o k f)=(h.row o k).bind λrow=>nW 11 (row.drop f):=by show(match h.row o k with|some row=>_|none=>none)=_;cases h.row o k<;>rfl
theorem l5{h:J}{o T V kk off:Nat}{rows:List (List D)}{row:List D}{v:D}(d:h[o]?=some (.row T V rows))(e:rows[kk]?=some row)(g:(cX v).length=11)(c:off+11≤row.length)(b:v.fo=true){a:Type}{f:J→Option a}{Q:a→Prop}
  (k:∀h',h'[o]?=some (.row T V (rows.set kk (dZ row off (cX v))))→bM o h h'→Wp (f h') Q):Wp ((aS tab h aH (.ptr o kk off) v).bind f) Q:=
 by rw[show aS tab h aH (.ptr o kk off) v=jw 11 h (.ptr o kk off) v from rfl];exact kx d e g c b k
@[simp] theorem NL(b c a:D)(cs:List D):aB tab bP 2 (.aE (b::c::a::cs))=some (.aE (a::cs)):=id rfl
@[simp] theorem C5(o k f:Nat):aB tab bP 2 (.ptr o k f)=some (.ptr o k (f+2)):=id rfl
theorem Ar{h:J}{n0:Nat}(e:n0≤h.length){rows:List (List D)}{x y:D}(g:aR h n0 aH 11 rows x){ys:List (List D)}(l:gA h 11 y=some ys)(d:(rows.length+ys.length)*144≤140737488355328){c:Type}{f:D × J→Option c}{Q:c→Prop}
  (k:∀b h',aR h' n0 aH 11 (rows++ys) b→h.length≤h'.length→(∀a,a<n0→h'[a]?=h[a]?)→(∀a,a<h.length→¬x.eC a→h'[a]?=h[a]?)→(∀a,b.eC a→x.eC a∨h.length≤a)→Wp (f (b,h')) Q):Wp ((dB tab h dO dO x y).bind f) Q:=
 oA (T:=tab) (i:=wv) (j:=Ih) (id rfl) (id rfl) (id rfl) (by decide) e g l (jD d (by omega)) k
theorem Iw{h:J}{o T V kk off:Nat}{rows:List (List D)}{row:List D}{v:D}(d:h[o]?=some (.row T V rows))(e:rows[kk]?=some row)(g:(cX v).length=1)(c:off+1≤row.length)(b:v.fo=true){a:Type}{f:J→Option a}{Q:a→Prop}
  (k:∀h',h'[o]?=some (.row T V (rows.set kk (dZ row off (cX v))))→bM o h h'→Wp (f h') Q):Wp ((aS tab h dO (.ptr o kk off) v).bind f) Q:=
 by rw[show aS tab h dO (.ptr o kk off) v=jw 1 h (.ptr o kk off) v from rfl];exact kx d e g c b k
theorem lJ{h:J}{o T V kk off:Nat}{rows:List (List D)}{row:List D}{v:D}(d:h[o]?=some (.row T V rows))(e:rows[kk]?=some row)(g:(cX v).length=1)(c:off+1≤row.length)(b:v.fo=true){a:Type}{f:J→Option a}{Q:a→Prop}
  (k:∀h',h'[o]?=some (.row T V (rows.set kk (dZ row off (cX v))))→bM o h h'→Wp (f h') Q):Wp ((aS tab h U (.ptr o kk off) v).bind f) Q:=
 by rw[show aS tab h U (.ptr o kk off) v=jw 1 h (.ptr o kk off) v from rfl];exact kx d e g c b k
@[simp] theorem Su(a b c:D):dL tab jl 1 [0] [.agg [a,b,c]]=some (.sl 3 true [[a,b,c]]):=id rfl
theorem a6L{h:J}{n0:Nat}(e:n0≤h.length){rows:List (List D)}{x y:D}(g:aR h n0 bP 3 rows x){ys:List (List D)}(l:gA h 3 y=some ys)(d:(rows.length+ys.length)*40≤140737488355328){c:Type}{f:D × J→Option c}{Q:c→Prop}
  (k:∀b h',aR h' n0 bP 3 (rows++ys) b→h.length≤h'.length→(∀a,a<n0→h'[a]?=h[a]?)→(∀a,a<h.length→¬x.eC a→h'[a]?=h[a]?)→(∀a,b.eC a→x.eC a∨h.length≤a)→Wp (f (b,h')) Q):Wp ((dB tab h jl jl x y).bind f) Q:=
 oA (T:=tab) (i:=H9) (j:=Ia) (id rfl) (id rfl) (id rfl) (by decide) e g l (jD d (by omega)) k
@[simp] theorem xG(k:IntKind)(n:Int):dT tab eG cD (.int k n)=some (.int .u8 (IntKind.wrap .u8 n)):=id rfl
@[simp] theorem xw(n0:Int):dL tab aP 1 [0] [.int .u8 n0]=some (.sl 1 true [[.int .u8 n0]]):=id rfl
@[simp] theorem CC(k:IntKind)(n:Int):dT tab cD fK (.int k n)=some (.int .u32 (IntKind.wrap .u32 n)):=id rfl
@[simp] theorem a7r(o k f:Nat):aB tab kU 0 (.ptr o k f)=some (.ptr o k (f+0)):=id rfl
@[simp] theorem a7s(o k f:Nat):aB tab kU 1 (.ptr o k f)=some (.ptr o k (f+1)):=id rfl
@[simp] theorem a7i(k:IntKind)(n:Int):dT tab cD U (.int k n)=some (.int .i64 (IntKind.wrap .i64 n)):=id rfl
def Ps:List (List UInt8):=[[],[42],[100,114,111,112],[115,97,109,112,108,101]]
@[simp] theorem a1R:dL tab hF 4 [0,1,2,3] [.str [],.str [42],.str [100,114,111,112],.str [115,97,109,112,108,101]]=some (.sl 1 true (Ps.map λs=>[.str s])):=id rfl
@[simp] theorem tp(f:Bool)(rows:List (List D))(i:Int):aO tab hF (.sl 1 f rows) (.int .i64 i)=if 0≤i then(rows[i.toNat]?).map .aE else none:=by show(if 1=1∧0≤i then(match rows[i.toNat]? with|some b=>some (D.aE b)|none=>none)else none)=_;by_cases a:0≤i<;>simp[a]<;>cases rows[i.toNat]?<;>rfl
@[simp] theorem gW(c:D)(cs:List D)(h:J):Y tab h bH (.aE (c::cs))=some c:=id rfl
@[simp] theorem j1(h:J)(o k f:Nat):Y tab h bH (.ptr o k f)=(h.row o k).bind λrow=>(row.drop f).head?:=by show(match h.row o k with|some row=>_|none=>none)=_;cases h.row o k<;>rfl
@[simp] theorem MI(k:IntKind)(n:Int):dT tab fK U (.int k n)=some (.int .i64 (IntKind.wrap .i64 n)):=id rfl
@[simp] theorem L9(a:D)(b:a.one=true):dL tab gC 1 [0] [a]=some (.sl 1 true [[a]]):=tC (T:=tab) (t:=gC) (n:=1) (i:=qS) (j:=iK) (id rfl) (id rfl) (id rfl) (id rfl) [a] rfl (by decide) (by simp[b])
theorem Rr{h:J}{n0:Nat}(e:n0≤h.length){rows:List (List D)}{x y:D}(g:aR h n0 aP 1 rows x){ys:List (List D)}(l:gA h 1 y=some ys)(d:(rows.length+ys.length)*24≤140737488355328){c:Type}{f:D × J→Option c}{Q:c→Prop}
  (k:∀b h',aR h' n0 aP 1 (rows++ys) b→h.length≤h'.length→(∀a,a<n0→h'[a]?=h[a]?)→(∀a,a<h.length→¬x.eC a→h'[a]?=h[a]?)→(∀a,b.eC a→x.eC a∨h.length≤a)→Wp (f (b,h')) Q):Wp ((dB tab h gC gC x y).bind f) Q:=
 oA (T:=tab) (i:=qS) (j:=iK) (id rfl) (id rfl) (id rfl) (by decide) e g l (jD d (by omega)) k
@[simp] theorem pd: eD tab bP [] []=some (.agg [.int .i64 0,.int .i64 0,.aA]):=id rfl
theorem rZ{α:Type}{f:α→List D}{l:List α}{d:D}(c:aI 1 f l d){k:IntKind}{n:Int}(a:0≤n)(b:n≤l.length):
  ∃d',eN tab aP true false false [d,.int k n]=some d'∧aI 1 f (l.drop n.toNat) d':=tV (T:=tab) (i:=iK) (j:=iE) (id rfl) (id rfl) (id rfl) (id rfl) c a b
@[simp] theorem R5 (c:D) (d:D) (e:c.one=true) (f:d.one=true):eD tab aX [0,1] [c,d]=some (.agg [c,d]):=by
 have a:=fT e;have b:=fT f;refine sJ (T:=tab) (i:=Ac) (fs:=[(31,0,1),(32,1,1)]) (id rfl) (id rfl) ?_;rw[show Ac.zero=[.aA,.aA]from id rfl];rw[oN (off:=0) (V:=1) (id rfl) (by rw[a.1];rfl) (by simp[dZ,oE,oF,oD,oC]) a.2,a.1];rw[oN (off:=1) (V:=1) (id rfl) (by rw[b.1];rfl) (by simp[dZ,oE,oF,oD,oC]) b.2,b.1];exact id rfl
@[simp] theorem R8(a b:D):eD tab gh [0] [.agg [a,b]]=some (.agg [a,b,.aA]):=id rfl
@[simp] theorem xP(o k f:Nat):aB tab gh 0 (.ptr o k f)=some (.ptr o k (f+0)):=id rfl
@[simp] theorem C6(o k f:Nat):aB tab gh 1 (.ptr o k f)=some (.ptr o k (f+2)):=id rfl
@[simp] theorem GU(h:J)(o k f:Nat):Y tab h dX (.ptr o k f)=(h.row o k).bind λrow=>(row.drop f).head?:=by show(match h.row o k with|some row=>_|none=>none)=_;cases h.row o k<;>rfl
@[simp] theorem C2(b c d e f a:D)(cs:List D):aB tab aC 5 (.aE (b::c::d::e::f::a::cs))=some (.aE (a::cs)):=id rfl
@[simp] theorem xT(o k f:Nat):aB tab aC 5 (.ptr o k f)=some (.ptr o k (f+5)):=id rfl
@[simp] theorem mT(a:D)(cs:List D):aB tab aC 0 (.aE (a::cs))=some (.aE (a::cs)):=id rfl
@[simp] theorem uZ(o k f:Nat):aB tab aC 0 (.ptr o k f)=some (.ptr o k (f+0)):=id rfl
@[simp] theorem mU(b a:D)(cs:List D):aB tab aC 1 (.aE (b::a::cs))=some (.aE (a::cs)):=id rfl
@[simp] theorem u0(o k f:Nat):aB tab aC 1 (.ptr o k f)=some (.ptr o k (f+1)):=id rfl
@[simp] theorem lA(b c a:D)(cs:List D):aB tab aC 2 (.aE (b::c::a::cs))=some (.aE (a::cs)):=id rfl
@[simp] theorem qs(o k f:Nat):aB tab aC 2 (.ptr o k f)=some (.ptr o k (f+2)):=id rfl
@[simp] theorem SB(n0:Int)(a:Int)(b:Int)(c:Int):dL tab iR 4 [0,1,2,3] [.int .i64 n0,.int .i64 a,.int .i64 b,.int .i64 c]=some (.sl 1 true [[.int .i64 n0],[.int .i64 a],[.int .i64 b],[.int .i64 c]]):=id rfl
@[simp] theorem nE(k:IntKind)(n:Int):dT tab eG U (.int k n)=some (.int .i64 (IntKind.wrap .i64 n)):=id rfl
@[simp] theorem a7q(b a:D)(cs:List D):aB tab aH 1 (.aE (b::a::cs))=some (.aE (a::cs)):=id rfl
@[simp] theorem lB(o k f:Nat):aB tab aH 1 (.ptr o k f)=some (.ptr o k (f+1)):=id rfl
@[simp] theorem lU(b c d e a:D)(cs:List D):aB tab aC 4 (.aE (b::c::d::e::a::cs))=some (.aE (a::cs)):=id rfl
@[simp] theorem jY(o k f:Nat):aB tab aC 4 (.ptr o k f)=some (.ptr o k (f+4)):=id rfl
@[simp] theorem jh(c:D)(cs:List D)(h:J):Y tab h bU (.aE (c::cs))=some c:=id rfl
@[simp] theorem m2(h:J)(o k f:Nat):Y tab h bU (.ptr o k f)=(h.row o k).bind λrow=>(row.drop f).head?:=by show(match h.row o k with|some row=>_|none=>none)=_;cases h.row o k<;>rfl
@[simp] theorem hX {α:Type} {f:α→List D} {l:List α} {d:D} (h:aI 3 f l d):bC tab bU d=some (.int .i64 l.length):=
 by
  rcases h with⟨rfl,rfl⟩|⟨a,rfl⟩
  ·rfl
  ·show some (D.int .i64 ((l.map f).length:Nat))=_;simp
theorem O9{h:J}{n0 e z:Nat}{rows:List (List D)}{d:D}(a:aR h n0 e z rows d):bC tab bU d=some (.int .i64 rows.length):=by
 rcases a with⟨rfl,rfl⟩|⟨b,_,rfl,_⟩<;>rfl
@[simp] theorem a1o(z o r n:Nat):bC tab bU (.aZ z o r n)=some (.int .i64 n):=id rfl
@[simp] theorem a1r:bC tab bU .aA=some (.int .i64 0):=id rfl
@[simp] theorem iB(b c d a:D)(cs:List D):aB tab aC 3 (.aE (b::c::d::a::cs))=some (.aE (a::cs)):=id rfl
@[simp] theorem s3(o k f:Nat):aB tab aC 3 (.ptr o k f)=some (.ptr o k (f+3)):=id rfl
@[simp] theorem Wu(a:D)(cs:List D):aB tab bP 0 (.aE (a::cs))=some (.aE (a::cs)):=id rfl
@[simp] theorem u1(o k f:Nat):aB tab aH 0 (.ptr o k f)=some (.ptr o k (f+0)):=id rfl
@[simp] theorem a7h(a b c d e f g h i j:D):dL tab dX 1 [0] [.agg [a,b,c,d,e,f,g,h,i,j]]=some (.sl 10 true [[a,b,c,d,e,f,g,h,i,j]]):=id rfl
@[simp] theorem oT {α:Type} {f:α→List D} {l:List α} {d:D} (h:aI 3 f l d):bC tab dV d=some (.int .i64 l.length):=
 by
  rcases h with⟨rfl,rfl⟩|⟨a,rfl⟩
  ·rfl
  ·show some (D.int .i64 ((l.map f).length:Nat))=_;simp
@[simp] theorem a1m(z o r n:Nat):bC tab dV (.aZ z o r n)=some (.int .i64 n):=id rfl
@[simp] theorem a0c(f:Bool)(rows:List (List D))(i:Int):aO tab dV (.sl 3 f rows) (.int .i64 i)=if 0≤i then(rows[i.toNat]?).map .aE else none:=by show(if 3=3∧0≤i then(match rows[i.toNat]? with|some b=>some (D.aE b)|none=>none)else none)=_;by_cases a:0≤i<;>simp[a]<;>cases rows[i.toNat]?<;>rfl
@[simp] theorem OH(o r n:Nat)(i:Int):aO tab dV (.aZ 3 o r n) (.int .i64 i)=if 0≤i∧i<n then some (.ptr o (r+i.toNat) 0)else none:=by show(if 3=3∧0≤i∧i<n then some (D.ptr o (r+i.toNat) 0)else none)=_;simp
@[simp] theorem tq {α:Type} {f:α→List D} {l:List α} {d:D} (h:aI 3 f l d) (i:Int):aO tab dV d (.int .i64 i)=if 0≤i then(l[i.toNat]?).map λp =>.aE (f p)else none:=
 by
  rcases h with⟨rfl,rfl⟩|⟨a,rfl⟩
  ·show none=_;simp
  ·rw[a0c];simp[kY]
@[simp] theorem a1f(h:J)(o k f:Nat):Y tab h eO (.ptr o k f)=(h.row o k).bind λrow=>nW 3 (row.drop f):=by show(match h.row o k with|some row=>_|none=>none)=_;cases h.row o k<;>rfl
@[simp] theorem Sm(a d:Int)(b e:Int)(c f:Int):O tab .neq eO (.agg [.int .i64 a,.int .i64 b,.int .i64 c]) (.agg [.int .i64 d,.int .i64 e,.int .i64 f])=some (.bool (!(a==d&&(b==e&&(c==f&&true))))):=id rfl
@[simp] theorem oU {α:Type} {f:α→List D} {l:List α} {d:D} (h:aI 3 f l d):bC tab dN d=some (.int .i64 l.length):=
 by
  rcases h with⟨rfl,rfl⟩|⟨a,rfl⟩
  ·rfl
  ·show some (D.int .i64 ((l.map f).length:Nat))=_;simp
@[simp] theorem a1q(z o r n:Nat):bC tab dN (.aZ z o r n)=some (.int .i64 n):=id rfl
@[simp] theorem a0m(f:Bool)(rows:List (List D))(i:Int):aO tab dN (.sl 3 f rows) (.int .i64 i)=if 0≤i then(rows[i.toNat]?).map .aE else none:=by show(if 3=3∧0≤i then(match rows[i.toNat]? with|some b=>some (D.aE b)|none=>none)else none)=_;by_cases a:0≤i<;>simp[a]<;>cases rows[i.toNat]?<;>rfl
@[simp] theorem GH(o r n:Nat)(i:Int):aO tab dN (.aZ 3 o r n) (.int .i64 i)=if 0≤i∧i<n then some (.ptr o (r+i.toNat) 0)else none:=by show(if 3=3∧0≤i∧i<n then some (D.ptr o (r+i.toNat) 0)else none)=_;simp
@[simp] theorem vK {α:Type} {f:α→List D} {l:List α} {d:D} (h:aI 3 f l d) (i:Int):aO tab dN d (.int .i64 i)=if 0≤i then(l[i.toNat]?).map λp =>.aE (f p)else none:=
 by
  rcases h with⟨rfl,rfl⟩|⟨a,rfl⟩
  ·show none=_;simp
  ·rw[a0m];simp[kY]
@[simp] theorem a1g(h:J)(o k f:Nat):Y tab h eK (.ptr o k f)=(h.row o k).bind λrow=>nW 3 (row.drop f):=by show(match h.row o k with|some row=>_|none=>none)=_;cases h.row o k<;>rfl
@[simp] theorem Sn(a d:Int)(b e:List UInt8)(c f:Int):O tab .neq eK (.agg [.int .i64 a,.str b,.int .i64 c]) (.agg [.int .i64 d,.str e,.int .i64 f])=some (.bool (!(a==d&&(b==e&&(c==f&&true))))):=id rfl
@[simp] theorem Sg(a b c d e f g h i j:D):eD tab aH [1] [.agg [a,b,c,d,e,f,g,h,i,j]]=some (.agg [.str [],a,b,c,d,e,f,g,h,i,j]):=id rfl
@[simp] theorem S6(k:IntKind)(n:Int):dT tab fK cD (.int k n)=some (.int .u8 (IntKind.wrap .u8 n)):=id rfl
@[simp] theorem Sw(n0:Int)(a:Int)(b:Int)(c:Int):dL tab aP 4 [0,1,2,3] [.int .u8 n0,.int .u8 a,.int .u8 b,.int .u8 c]=some (.sl 1 true [[.int .u8 n0],[.int .u8 a],[.int .u8 b],[.int .u8 c]]):=id rfl
@[simp] theorem Sq(a:D)(b:D)(c:a.one=true)(d:b.one=true):dL tab gC 2 [0,1] [a,b]=some (.sl 1 true [[a],[b]]):=tC (T:=tab) (t:=gC) (n:=2) (i:=qS) (j:=iK) (id rfl) (id rfl) (id rfl) (id rfl) [a,b] rfl (by decide) (by simp[c,d])
@[simp] theorem Sv(a:D)(b:a.one=true):dL tab kA 1 [0] [a]=some (.sl 1 true [[a]]):=tC (T:=tab) (t:=kA) (n:=1) (i:=Ag) (j:=wv) (id rfl) (id rfl) (id rfl) (id rfl) [a] rfl (by decide) (by simp[b])
theorem a6M{h:J}{n0:Nat}(e:n0≤h.length){rows:List (List D)}{x y:D}(g:aR h n0 dO 1 rows x){ys:List (List D)}(l:gA h 1 y=some ys)(d:(rows.length+ys.length)*24≤140737488355328){c:Type}{f:D × J→Option c}{Q:c→Prop}
  (k:∀b h',aR h' n0 dO 1 (rows++ys) b→h.length≤h'.length→(∀a,a<n0→h'[a]?=h[a]?)→(∀a,a<h.length→¬x.eC a→h'[a]?=h[a]?)→(∀a,b.eC a→x.eC a∨h.length≤a)→Wp (f (b,h')) Q):Wp ((dB tab h kA kA x y).bind f) Q:=
 oA (T:=tab) (i:=Ag) (j:=wv) (id rfl) (id rfl) (id rfl) (by decide) e g l (jD d (by omega)) k
theorem qX{h:J}{o T V kk off:Nat}{rows:List (List D)}{row:List D}{v:D}(d:h[o]?=some (.row T V rows))(e:rows[kk]?=some row)(g:(cX v).length=1)(c:off+1≤row.length)(b:v.fo=true){a:Type}{f:J→Option a}{Q:a→Prop}
  (k:∀h',h'[o]?=some (.row T V (rows.set kk (dZ row off (cX v))))→bM o h h'→Wp (f h') Q):Wp ((aS tab h bU (.ptr o kk off) v).bind f) Q:=
 by rw[show aS tab h bU (.ptr o kk off) v=jw 1 h (.ptr o kk off) v from rfl];exact kx d e g c b k
theorem r7{h:J}{n0:Nat}(e:n0≤h.length){rows:List (List D)}{x y:D}(g:aR h n0 dD 3 rows x){ys:List (List D)}(l:gA h 3 y=some ys)(d:(rows.length+ys.length)*32≤140737488355328){c:Type}{f:D × J→Option c}{Q:c→Prop}
  (k:∀b h',aR h' n0 dD 3 (rows++ys) b→h.length≤h'.length→(∀a,a<n0→h'[a]?=h[a]?)→(∀a,a<h.length→¬x.eC a→h'[a]?=h[a]?)→(∀a,b.eC a→x.eC a∨h.length≤a)→Wp (f (b,h')) Q):Wp ((dB tab h bU bU x y).bind f) Q:=
 oA (T:=tab) (i:=tZ) (j:=r5) (id rfl) (id rfl) (id rfl) (by decide) e g l (jD d (by omega)) k
@[simp] theorem a0j(f:Bool)(rows:List (List D))(i:Int):aO tab bU (.sl 3 f rows) (.int .i64 i)=if 0≤i then(rows[i.toNat]?).map .aE else none:=by show(if 3=3∧0≤i then(match rows[i.toNat]? with|some b=>some (D.aE b)|none=>none)else none)=_;by_cases a:0≤i<;>simp[a]<;>cases rows[i.toNat]?<;>rfl
@[simp] theorem y6(o r n:Nat)(i:Int):aO tab bU (.aZ 3 o r n) (.int .i64 i)=if 0≤i∧i<n then some (.ptr o (r+i.toNat) 0)else none:=by show(if 3=3∧0≤i∧i<n then some (D.ptr o (r+i.toNat) 0)else none)=_;simp
@[simp] theorem m0 {α:Type} {f:α→List D} {l:List α} {d:D} (h:aI 3 f l d) (i:Int):aO tab bU d (.int .i64 i)=if 0≤i then(l[i.toNat]?).map λp =>.aE (f p)else none:=
 by
  rcases h with⟨rfl,rfl⟩|⟨a,rfl⟩
  ·show none=_;simp
  ·rw[a0j];simp[kY]
@[simp] theorem C4(b c a:D)(cs:List D):aB tab dD 2 (.aE (b::c::a::cs))=some (.aE (a::cs)):=id rfl
@[simp] theorem mh(o k f:Nat):aB tab dD 2 (.ptr o k f)=some (.ptr o k (f+2)):=id rfl
theorem pZ{h:J}{o T V kk off:Nat}{rows:List (List D)}{row:List D}{v:D}(d:h[o]?=some (.row T V rows))(e:rows[kk]?=some row)(g:(cX v).length=1)(c:off+1≤row.length)(b:v.fo=true){a:Type}{f:J→Option a}{Q:a→Prop}
  (k:∀h',h'[o]?=some (.row T V (rows.set kk (dZ row off (cX v))))→bM o h h'→Wp (f h') Q):Wp ((aS tab h bH (.ptr o kk off) v).bind f) Q:=
 by rw[show aS tab h bH (.ptr o kk off) v=jw 1 h (.ptr o kk off) v from rfl];exact kx d e g c b k
@[simp] theorem O4(h:J)(o k f:Nat):Y tab h dD (.ptr o k f)=(h.row o k).bind λrow=>nW 3 (row.drop f):=by show(match h.row o k with|some row=>_|none=>none)=_;cases h.row o k<;>rfl
@[simp] theorem Sy(a b c:D):dL tab bU 1 [0] [.agg [a,b,c]]=some (.sl 3 true [[a,b,c]]):=id rfl
@[simp] theorem a7n(a:D)(cs:List D):aB tab eK 0 (.aE (a::cs))=some (.aE (a::cs)):=id rfl
@[simp] theorem a7o(b a:D)(cs:List D):aB tab eK 1 (.aE (b::a::cs))=some (.aE (a::cs)):=id rfl
theorem Rs{h:J}{n0:Nat}(e:n0≤h.length){rows:List (List D)}{x y:D}(g:aR h n0 eK 3 rows x){ys:List (List D)}(l:gA h 3 y=some ys)(d:(rows.length+ys.length)*32≤140737488355328){c:Type}{f:D × J→Option c}{Q:c→Prop}
  (k:∀b h',aR h' n0 eK 3 (rows++ys) b→h.length≤h'.length→(∀a,a<n0→h'[a]?=h[a]?)→(∀a,a<h.length→¬x.eC a→h'[a]?=h[a]?)→(∀a,b.eC a→x.eC a∨h.length≤a)→Wp (f (b,h')) Q):Wp ((dB tab h dN dN x y).bind f) Q:=
 oA (T:=tab) (i:=kS) (j:=h4) (id rfl) (id rfl) (id rfl) (by decide) e g l (jD d (by omega)) k
@[simp] theorem NS(o k f:Nat):aB tab eK 2 (.ptr o k f)=some (.ptr o k (f+2)):=id rfl
@[simp] theorem R7(n0:Int)(b:List UInt8)(a:Int):eD tab eK [0,1,2] [.int .i64 n0,.str b,.int .i64 a]=some (.agg [.int .i64 n0,.str b,.int .i64 a]):=id rfl
@[simp] theorem Mc(a b c:D):dL tab dN 1 [0] [.agg [a,b,c]]=some (.sl 3 true [[a,b,c]]):=id rfl
@[simp] theorem L5: eD tab aH [] []=some (.agg [.str [],.int .i64 0,.int .i64 0,.int .i64 0,.int .i64 0,.aA,.int .i64 0,.int .i64 0,.str [],.str [],.aA]):=id rfl
@[simp] theorem Sb (b:D) (c:b.one=true):eD tab hR [0] [b]=some (.agg [b,.bool false]):=by
 have a:=fT c;refine sJ (T:=tab) (i:=Af) (fs:=[(22,0,1),(4,1,1)]) (id rfl) (id rfl) ?_;rw[show Af.zero=[.aA,.bool false]from id rfl];rw[oN (off:=0) (V:=1) (id rfl) (by rw[a.1];rfl) (by simp[dZ,oE,oF,oD,oC]) a.2,a.1];exact id rfl
@[simp] theorem xR(o k f:Nat):aB tab hR 1 (.ptr o k f)=some (.ptr o k (f+1)):=id rfl
@[simp] theorem O2(h:J)(o k f:Nat):Y tab h iZ (.ptr o k f)=(h.row o k).bind λrow=>(row.drop f).head?:=by show(match h.row o k with|some row=>_|none=>none)=_;cases h.row o k<;>rfl
@[simp] theorem oL(o k f:Nat):aB tab hR 0 (.ptr o k f)=some (.ptr o k (f+0)):=id rfl
@[simp] theorem Sp: dL tab dV 0 [] []=some (.sl 3 true []):=id rfl
@[simp] theorem Mb: dL tab dN 0 [] []=some (.sl 3 true []):=id rfl
@[simp] theorem a7m(b c a:D)(cs:List D):aB tab eO 2 (.aE (b::c::a::cs))=some (.aE (a::cs)):=id rfl
@[simp] theorem Wv(o k f:Nat):aB tab eO 2 (.ptr o k f)=some (.ptr o k (f+2)):=id rfl
theorem m9{h:J}{o T V kk off:Nat}{rows:List (List D)}{row:List D}{v:D}(d:h[o]?=some (.row T V rows))(e:rows[kk]?=some row)(g:(cX v).length=10)(c:off+10≤row.length)(b:v.fo=true){a:Type}{f:J→Option a}{Q:a→Prop}
  (k:∀h',h'[o]?=some (.row T V (rows.set kk (dZ row off (cX v))))→bM o h h'→Wp (f h') Q):Wp ((aS tab h aC (.ptr o kk off) v).bind f) Q:=
 by rw[show aS tab h aC (.ptr o kk off) v=jw 10 h (.ptr o kk off) v from rfl];exact kx d e g c b k
@[simp] theorem NQ(b c d e f g h i j a:D)(cs:List D):aB tab aC 9 (.aE (b::c::d::e::f::g::h::i::j::a::cs))=some (.aE (a::cs)):=id rfl
@[simp] theorem oM(o k f:Nat):aB tab aC 9 (.ptr o k f)=some (.ptr o k (f+9)):=id rfl
@[simp] theorem lW(c:D)(cs:List D)(h:J):Y tab h bQ (.aE (c::cs))=some c:=id rfl
@[simp] theorem zg(h:J)(o k f:Nat):Y tab h bQ (.ptr o k f)=(h.row o k).bind λrow=>(row.drop f).head?:=by show(match h.row o k with|some row=>_|none=>none)=_;cases h.row o k<;>rfl
theorem wD{h:J}{o T V kk off:Nat}{rows:List (List D)}{row:List D}{v:D}(d:h[o]?=some (.row T V rows))(e:rows[kk]?=some row)(g:(cX v).length=1)(c:off+1≤row.length)(b:v.fo=true){a:Type}{f:J→Option a}{Q:a→Prop}
  (k:∀h',h'[o]?=some (.row T V (rows.set kk (dZ row off (cX v))))→bM o h h'→Wp (f h') Q):Wp ((aS tab h bQ (.ptr o kk off) v).bind f) Q:=
 by rw[show aS tab h bQ (.ptr o kk off) v=jw 1 h (.ptr o kk off) v from rfl];exact kx d e g c b k
theorem a6W{h:J}{o T V kk off:Nat}{rows:List (List D)}{row:List D}{v:D}(d:h[o]?=some (.row T V rows))(e:rows[kk]?=some row)(g:(cX v).length=1)(c:off+1≤row.length)(b:v.fo=true){a:Type}{f:J→Option a}{Q:a→Prop}
  (k:∀h',h'[o]?=some (.row T V (rows.set kk (dZ row off (cX v))))→bM o h h'→Wp (f h') Q):Wp ((aS tab h dX (.ptr o kk off) v).bind f) Q:=
 by rw[show aS tab h dX (.ptr o kk off) v=jw 1 h (.ptr o kk off) v from rfl];exact kx d e g c b k
@[simp] theorem a1z {α:Type} {f:α→List D} {l:List α} {d:D} (h:aI 1 f l d):bC tab iR d=some (.int .i64 l.length):=
 by
  rcases h with⟨rfl,rfl⟩|⟨a,rfl⟩
  ·rfl
  ·show some (D.int .i64 ((l.map f).length:Nat))=_;simp
@[simp] theorem uP(k:IntKind)(n:Int):dT tab cD eG (.int k n)=some (.int .u64 (IntKind.wrap .u64 n)):=id rfl
@[simp] theorem Sd (b:D) (c:Bool) (d:b.one=true):eD tab bI [0,2] [b,.bool c]=some (.agg [b,.int .i64 0,.bool c]):=by
 have a:=fT d;refine sJ (T:=tab) (i:=tY) (fs:=[(22,0,1),(3,1,1),(4,2,1)]) (id rfl) (id rfl) ?_;rw[show tY.zero=[.aA,.int .i64 0,.bool false]from id rfl];rw[oN (off:=0) (V:=1) (id rfl) (by rw[a.1];rfl) (by simp[dZ,oE,oF,oD,oC]) a.2,a.1];rw[oN (off:=2) (V:=1) (id rfl) (id rfl) (by simp[dZ,oE,oF,oD,oC]) (id rfl)];exact id rfl
theorem a6V{h:J}{o T V kk off:Nat}{rows:List (List D)}{row:List D}{v:D}(d:h[o]?=some (.row T V rows))(e:rows[kk]?=some row)(g:(cX v).length=3)(c:off+3≤row.length)(b:v.fo=true){a:Type}{f:J→Option a}{Q:a→Prop}
  (k:∀h',h'[o]?=some (.row T V (rows.set kk (dZ row off (cX v))))→bM o h h'→Wp (f h') Q):Wp ((aS tab h bI (.ptr o kk off) v).bind f) Q:=
 by rw[show aS tab h bI (.ptr o kk off) v=jw 3 h (.ptr o kk off) v from rfl];exact kx d e g c b k
@[simp] theorem sZ(o k f:Nat):aB tab bI 2 (.ptr o k f)=some (.ptr o k (f+2)):=id rfl
@[simp] theorem Sc (b:D) (d:Int) (c:Bool) (e:b.one=true):eD tab bI [0,1,2] [b,.int .i64 d,.bool c]=some (.agg [b,.int .i64 d,.bool c]):=by
 have a:=fT e;refine sJ (T:=tab) (i:=tY) (fs:=[(22,0,1),(3,1,1),(4,2,1)]) (id rfl) (id rfl) ?_;rw[show tY.zero=[.aA,.int .i64 0,.bool false]from id rfl];rw[oN (off:=0) (V:=1) (id rfl) (by rw[a.1];rfl) (by simp[dZ,oE,oF,oD,oC]) a.2,a.1];rw[oN (off:=1) (V:=1) (id rfl) (id rfl) (by simp[dZ,oE,oF,oD,oC]) (id rfl)];rw[oN (off:=2) (V:=1) (id rfl) (id rfl) (by simp[dZ,oE,oF,oD,oC]) (id rfl)];exact id rfl
@[simp] theorem xS(o k f:Nat):aB tab bI 0 (.ptr o k f)=some (.ptr o k (f+0)):=id rfl
theorem Ix{h:J}{o T V kk off:Nat}{rows:List (List D)}{row:List D}{v:D}(d:h[o]?=some (.row T V rows))(e:rows[kk]?=some row)(g:(cX v).length=1)(c:off+1≤row.length)(b:v.fo=true){a:Type}{f:J→Option a}{Q:a→Prop}
  (k:∀h',h'[o]?=some (.row T V (rows.set kk (dZ row off (cX v))))→bM o h h'→Wp (f h') Q):Wp ((aS tab h aP (.ptr o kk off) v).bind f) Q:=
 by rw[show aS tab h aP (.ptr o kk off) v=jw 1 h (.ptr o kk off) v from rfl];exact kx d e g c b k
@[simp] theorem a1h(h:J)(o k f:Nat):Y tab h bI (.ptr o k f)=(h.row o k).bind λrow=>nW 3 (row.drop f):=by show(match h.row o k with|some row=>_|none=>none)=_;cases h.row o k<;>rfl
@[simp] theorem NN(b c d e f g a:D)(cs:List D):aB tab aC 6 (.aE (b::c::d::e::f::g::a::cs))=some (.aE (a::cs)):=id rfl
@[simp] theorem xU(o k f:Nat):aB tab aC 6 (.ptr o k f)=some (.ptr o k (f+6)):=id rfl
@[simp] theorem NO(b c d e f g h a:D)(cs:List D):aB tab aC 7 (.aE (b::c::d::e::f::g::h::a::cs))=some (.aE (a::cs)):=id rfl
@[simp] theorem xV(o k f:Nat):aB tab aC 7 (.ptr o k f)=some (.ptr o k (f+7)):=id rfl
@[simp] theorem NP(b c d e f g h i a:D)(cs:List D):aB tab aC 8 (.aE (b::c::d::e::f::g::h::i::a::cs))=some (.aE (a::cs)):=id rfl
@[simp] theorem xW(o k f:Nat):aB tab aC 8 (.ptr o k f)=some (.ptr o k (f+8)):=id rfl
@[simp] theorem uY(o k f:Nat):aB tab bI 1 (.ptr o k f)=some (.ptr o k (f+1)):=id rfl
@[simp] theorem C3(a:D)(cs:List D):aB tab dD 0 (.aE (a::cs))=some (.aE (a::cs)):=id rfl
@[simp] theorem nH(o k f:Nat):aB tab dD 0 (.ptr o k f)=some (.ptr o k (f+0)):=id rfl
@[simp] theorem a7k(a:D)(cs:List D):aB tab eO 0 (.aE (a::cs))=some (.aE (a::cs)):=id rfl
@[simp] theorem a7l(b a:D)(cs:List D):aB tab eO 1 (.aE (b::a::cs))=some (.aE (a::cs)):=id rfl
theorem a4P{α:Type}{f:α→List D}{l:List α}{d:D}(c:aI 3 f l d){k:IntKind}{n:Int}(a:0≤n)(b:n≤l.length):
  ∃d',eN tab dV false true false [d,.int k n]=some d'∧aI 3 f (l.take n.toNat) d':=HV (T:=tab) (i:=r4) (j:=kR) (id rfl) (id rfl) (id rfl) (id rfl) c a b
theorem a4Q{α:Type}{f:α→List D}{l:List α}{d:D}(c:aI 3 f l d){k:IntKind}{n:Int}(a:0≤n)(b:n≤l.length):
  ∃d',eN tab dV true false false [d,.int k n]=some d'∧aI 3 f (l.drop n.toNat) d':=tV (T:=tab) (i:=r4) (j:=kR) (id rfl) (id rfl) (id rfl) (id rfl) c a b
@[simp] theorem Se(n0:Int)(a:Int)(b:Int):eD tab aC [0,1,2] [.int .i64 n0,.int .i64 a,.int .i64 b]=some (.agg [.int .i64 n0,.int .i64 a,.int .i64 b,.int .i64 0,.aA,.int .i64 0,.int .i64 0,.str [],.str [],.aA]):=id rfl
@[simp] theorem gn(s:List UInt8):bC tab bH (.str s)=some (.int .i64 s.length):=id rfl
@[simp] theorem Sh(n0:Int)(a:Int)(b:List UInt8):eD tab dD [0,1,2] [.int .i64 n0,.int .i64 a,.str b]=some (.agg [.int .i64 n0,.int .i64 a,.str b]):=id rfl
def qF:List (List UInt8):=[[115,97,109,112,108,101],[100,114,111,112],[116,111,111,45,108,111,110,103]]
@[simp] theorem a1U:dL tab hF 3 [0,1,2] [.str [115,97,109,112,108,101],.str [100,114,111,112],.str [116,111,111,45,108,111,110,103]]=some (.sl 1 true (qF.map λs=>[.str s])):=id rfl
@[simp] theorem Sf(a:List UInt8)(b c d e f g h i j k:D):eD tab aH [0,1] [.str a,.agg [b,c,d,e,f,g,h,i,j,k]]=some (.agg [.str a,b,c,d,e,f,g,h,i,j,k]):=id rfl
def vY:List (List UInt8):=[[116,49],[116,50],[],[49,58,50,58,48]]
@[simp] theorem a1V:dL tab hF 4 [0,1,2,3] [.str [116,49],.str [116,50],.str [],.str [49,58,50,58,48]]=some (.sl 1 true (vY.map λs=>[.str s])):=id rfl
def vZ:List (List UInt8):=[[109,97,105,110],[100,101,98,117,103]]
@[simp] theorem a1W:dL tab hF 2 [0,1] [.str [109,97,105,110],.str [100,101,98,117,103]]=some (.sl 1 true (vZ.map λs=>[.str s])):=id rfl
@[simp] theorem Ma(a:D)(b:D)(c:D)(d:D)(e:a.one=true)(f:b.one=true)(h2:c.one=true)(g:d.one=true):dL tab pX 4 [0,1,2,3] [a,b,c,d]=some (.sl 1 true [[a],[b],[c],[d]]):=tC (T:=tab) (t:=pX) (n:=4) (i:=Ic) (j:=Ib) (id rfl) (id rfl) (id rfl) (id rfl) [a,b,c,d] rfl (by decide) (by simp[e,f,h2,g])
@[simp] theorem O7(z:Nat)(f:Bool)(rows:List (List D)):bC tab pX (.sl z f rows)=some (.int .i64 rows.length):=id rfl
@[simp] theorem vH(f:Bool)(rows:List (List D))(i:Int):aO tab pX (.sl 1 f rows) (.int .i64 i)=if 0≤i then(rows[i.toNat]?).map .aE else none:=by show(if 1=1∧0≤i then(match rows[i.toNat]? with|some b=>some (D.aE b)|none=>none)else none)=_;by_cases a:0≤i<;>simp[a]<;>cases rows[i.toNat]?<;>rfl
@[simp] theorem vP(c:D)(cs:List D)(h:J):Y tab h Rm (.aE (c::cs))=some c:=id rfl
@[simp] theorem NR(b a:D)(cs:List D):aB tab dD 1 (.aE (b::a::cs))=some (.aE (a::cs)):=id rfl
@[simp] theorem nI(o k f:Nat):aB tab dD 1 (.ptr o k f)=some (.ptr o k (f+1)):=id rfl
@[simp] theorem hZ {α:Type} {f:α→List D} {l:List α} {d:D} (h:aI 2 f l d):bC tab bQ d=some (.int .i64 l.length):=
 by
  rcases h with⟨rfl,rfl⟩|⟨a,rfl⟩
  ·rfl
  ·show some (D.int .i64 ((l.map f).length:Nat))=_;simp
theorem GX{h:J}{n0 e z:Nat}{rows:List (List D)}{d:D}(a:aR h n0 e z rows d):bC tab bQ d=some (.int .i64 rows.length):=by
 rcases a with⟨rfl,rfl⟩|⟨b,_,rfl,_⟩<;>rfl
@[simp] theorem O8(z o r n:Nat):bC tab bQ (.aZ z o r n)=some (.int .i64 n):=id rfl
@[simp] theorem a1s:bC tab bQ .aA=some (.int .i64 0):=id rfl
@[simp] theorem SA(a b:D):dL tab bQ 1 [0] [.agg [a,b]]=some (.sl 2 true [[a,b]]):=id rfl
theorem wA{h:J}{n0:Nat}(e:n0≤h.length){rows:List (List D)}{x y:D}(g:aR h n0 bE 2 rows x){ys:List (List D)}(l:gA h 2 y=some ys)(d:(rows.length+ys.length)*32≤140737488355328){c:Type}{f:D × J→Option c}{Q:c→Prop}
  (k:∀b h',aR h' n0 bE 2 (rows++ys) b→h.length≤h'.length→(∀a,a<n0→h'[a]?=h[a]?)→(∀a,a<h.length→¬x.eC a→h'[a]?=h[a]?)→(∀a,b.eC a→x.eC a∨h.length≤a)→Wp (f (b,h')) Q):Wp ((dB tab h bQ bQ x y).bind f) Q:=
 oA (T:=tab) (i:=Ai) (j:=wu) (id rfl) (id rfl) (id rfl) (by decide) e g l (jD d (by omega)) k
@[simp] theorem a0k(f:Bool)(rows:List (List D))(i:Int):aO tab bQ (.sl 2 f rows) (.int .i64 i)=if 0≤i then(rows[i.toNat]?).map .aE else none:=by show(if 2=2∧0≤i then(match rows[i.toNat]? with|some b=>some (D.aE b)|none=>none)else none)=_;by_cases a:0≤i<;>simp[a]<;>cases rows[i.toNat]?<;>rfl
@[simp] theorem mm(o r n:Nat)(i:Int):aO tab bQ (.aZ 2 o r n) (.int .i64 i)=if 0≤i∧i<n then some (.ptr o (r+i.toNat) 0)else none:=by show(if 2=2∧0≤i∧i<n then some (D.ptr o (r+i.toNat) 0)else none)=_;simp
@[simp] theorem k7 {α:Type} {f:α→List D} {l:List α} {d:D} (h:aI 2 f l d) (i:Int):aO tab bQ d (.int .i64 i)=if 0≤i then(l[i.toNat]?).map λp =>.aE (f p)else none:=
 by
  rcases h with⟨rfl,rfl⟩|⟨a,rfl⟩
  ·show none=_;simp
  ·rw[a0k];simp[kY]
@[simp] theorem NM(a:D)(cs:List D):aB tab bE 0 (.aE (a::cs))=some (.aE (a::cs)):=id rfl
@[simp] theorem rA(o k f:Nat):aB tab bE 0 (.ptr o k f)=some (.ptr o k (f+0)):=id rfl
@[simp] theorem a7p(b a:D)(cs:List D):aB tab bE 1 (.aE (b::a::cs))=some (.aE (a::cs)):=id rfl
@[simp] theorem C7(o k f:Nat):aB tab bE 1 (.ptr o k f)=some (.ptr o k (f+1)):=id rfl
@[simp] theorem S5(k:IntKind)(n:Int):dT tab eG fK (.int k n)=some (.int .u32 (IntKind.wrap .u32 n)):=id rfl
@[simp] theorem Sr(a:D)(b:D)(c:D)(d:a.one=true)(e:b.one=true)(h2:c.one=true):dL tab gC 3 [0,1,2] [a,b,c]=some (.sl 1 true [[a],[b],[c]]):=tC (T:=tab) (t:=gC) (n:=3) (i:=qS) (j:=iK) (id rfl) (id rfl) (id rfl) (id rfl) [a,b,c] rfl (by decide) (by simp[d,e,h2])
@[simp] theorem Sa (b:D) (c:b.one=true):eD tab jm [0] [b]=some (.agg [b]):=by
 have a:=fT c;refine sJ (T:=tab) (i:=Ae) (fs:=[(22,0,1)]) (id rfl) (id rfl) ?_;rw[show Ae.zero=[.aA]from id rfl];rw[oN (off:=0) (V:=1) (id rfl) (by rw[a.1];rfl) (by simp[dZ,oE,oF,oD,oC]) a.2,a.1];exact id rfl
@[simp] theorem xQ(o k f:Nat):aB tab jm 0 (.ptr o k f)=some (.ptr o k (f+0)):=id rfl
@[simp] theorem Sx: dL tab bU 0 [] []=some (.sl 3 true []):=id rfl
@[simp] theorem Sz: dL tab bQ 0 [] []=some (.sl 2 true []):=id rfl
@[simp] theorem nF(k:IntKind)(n:Int):dT tab U hD (.int k n)=some (.int .u64 (IntKind.wrap .u64 n)):=id rfl
@[simp] theorem oI(k:IntKind)(n:Int):dT tab hD U (.int k n)=some (.int .i64 (IntKind.wrap .i64 n)):=id rfl
theorem Iy{h:J}{o T V kk off:Nat}{rows:List (List D)}{row:List D}{v:D}(d:h[o]?=some (.row T V rows))(e:rows[kk]?=some row)(g:(cX v).length=1)(c:off+1≤row.length)(b:v.fo=true){a:Type}{f:J→Option a}{Q:a→Prop}
  (k:∀h',h'[o]?=some (.row T V (rows.set kk (dZ row off (cX v))))→bM o h h'→Wp (f h') Q):Wp ((aS tab h iZ (.ptr o kk off) v).bind f) Q:=
 by rw[show aS tab h iZ (.ptr o kk off) v=jw 1 h (.ptr o kk off) v from rfl];exact kx d e g c b k
@[simp] theorem ze(h:J)(o k f:Nat):Y tab h bE (.ptr o k f)=(h.row o k).bind λrow=>nW 2 (row.drop f):=by show(match h.row o k with|some row=>_|none=>none)=_;cases h.row o k<;>rfl
@[simp] theorem a7g(a d:Int)(b e:Int)(c f:List UInt8):O tab .neq dD (.agg [.int .i64 a,.int .i64 b,.str c]) (.agg [.int .i64 d,.int .i64 e,.str f])=some (.bool (!(a==d&&(b==e&&(c==f&&true))))):=id rfl
@[simp] theorem a7f(a c:List UInt8)(b d:List UInt8):O tab .neq bE (.agg [.str a,.str b]) (.agg [.str c,.str d])=some (.bool (!(a==c&&(b==d&&true)))):=id rfl
def G2:List (List UInt8):=[[32],[32],[44,32],[61],[]]
@[simp] theorem a1X:dL tab hF 5 [0,1,2,3,4] [.str [32],.str [32],.str [44,32],.str [61],.str []]=some (.sl 1 true (G2.map λs=>[.str s])):=id rfl
def G1:List Int:=[1,1,2,5,10,5040]
@[simp] theorem a7x:dL tab iR 6 [0,1,2,3,4,5] [.int .i64 1,.int .i64 1,.int .i64 2,.int .i64 5,.int .i64 10,.int .i64 5040]=some (.sl 1 true (G1.map λn=>[.int .i64 n])):=id rfl
def mq:List (List UInt8):=[[99,111,100,101],[108,101,118,101,108],[109,115],[117,115,101,114]]
@[simp] theorem a1Y:mq.length=4:=id rfl
@[simp] theorem a1Z:dL tab hF 4 [0,1,2,3] [.str [99,111,100,101],.str [108,101,118,101,108],.str [109,115],.str [117,115,101,114]]=some (.sl 1 true (mq.map λs=>[.str s])):=id rfl
@[simp] theorem a1l(z:Nat)(f:Bool)(rows:List (List D)):bC tab hF (.sl z f rows)=some (.int .i64 rows.length):=id rfl
@[simp] theorem R9(a:List UInt8)(b:List UInt8):eD tab bE [0,1] [.str a,.str b]=some (.agg [.str a,.str b]):=id rfl
theorem a6Y{h:J}{o T V kk off:Nat}{rows:List (List D)}{row:List D}{v:D}(d:h[o]?=some (.row T V rows))(e:rows[kk]?=some row)(g:(cX v).length=3)(c:off+3≤row.length)(b:v.fo=true){a:Type}{f:J→Option a}{Q:a→Prop}
  (k:∀h',h'[o]?=some (.row T V (rows.set kk (dZ row off (cX v))))→bM o h h'→Wp (f h') Q):Wp ((aS tab h dD (.ptr o kk off) v).bind f) Q:=
 by rw[show aS tab h dD (.ptr o kk off) v=jw 3 h (.ptr o kk off) v from rfl];exact kx d e g c b k
@[simp] theorem R6(n0:Int)(a:List UInt8):eD tab eK [0,1] [.int .i64 n0,.str a]=some (.agg [.int .i64 n0,.str a,.int .i64 0]):=id rfl
def zo:List (List UInt8):=[[103,101,116],[101,114,114,111,114],[119,97,114,110],[97,49],[117,115,101,114,95,55],[120],[84,105,109,101,111,117,116],[50,48,48],[71,69,84],[101,114,114,111],[122],[],[255],[97,46,98]]
@[simp] theorem a7y:zo.length=14:=id rfl
@[simp] theorem a7z:dL tab hF 14 [0,1,2,3,4,5,6,7,8,9,10,11,12,13] [.str [103,101,116],.str [101,114,114,111,114],.str [119,97,114,110],.str [97,49],.str [117,115,101,114,95,55],.str [120],.str [84,105,109,101,111,117,116],.str [50,48,48],.str [71,69,84],.str [101,114,114,111],.str [122],.str [],.str [255],.str [97,46,98]]=some (.sl 1 true (zo.map λs=>[.str s])):=id rfl
def zn:List (List UInt8):=[[119,97,114,110],[105,110,102,111],[55],[45,51],[51,49],[],[120,32,121],[57,57,57,57,57,57,57,57,57,57,57,57,57,57,57,57,57,57],[49,48,48,48,48,48,48,48,48,48,48,48,48,48,48,48,48,48,48],[48,55],[45]]
@[simp] theorem a7A:zn.length=11:=id rfl
@[simp] theorem a7B:dL tab hF 11 [0,1,2,3,4,5,6,7,8,9,10] [.str [119,97,114,110],.str [105,110,102,111],.str [55],.str [45,51],.str [51,49],.str [],.str [120,32,121],.str [57,57,57,57,57,57,57,57,57,57,57,57,57,57,57,57,57,57],.str [49,48,48,48,48,48,48,48,48,48,48,48,48,48,48,48,48,48,48],.str [48,55],.str [45]]=some (.sl 1 true (zn.map λs=>[.str s])):=id rfl
theorem nY{h:J}{o T V kk off:Nat}{rows:List (List D)}{row:List D}{v:D}(d:h[o]?=some (.row T V rows))(e:rows[kk]?=some row)(g:(cX v).length=2)(c:off+2≤row.length)(b:v.fo=true){a:Type}{f:J→Option a}{Q:a→Prop}
  (k:∀h',h'[o]?=some (.row T V (rows.set kk (dZ row off (cX v))))→bM o h h'→Wp (f h') Q):Wp ((aS tab h bE (.ptr o kk off) v).bind f) Q:=
 by rw[show aS tab h bE (.ptr o kk off) v=jw 2 h (.ptr o kk off) v from rfl];exact kx d e g c b k
@[simp] theorem GD(d:D)(xs:List D)(h:J):iH tab R "logtide/event.count" (.iface mC d::xs) h=R yv (d::xs) h:=by kernel_rfl
@[simp] theorem qC(d:D)(xs:List D)(h:J):iH tab R "logtide/event.number" (.iface mC d::xs) h=R yw (d::xs) h:=by kernel_rfl
@[simp] theorem vF(d:D)(xs:List D)(h:J):iH tab R "logtide/event.text" (.iface mC d::xs) h=R yx (d::xs) h:=by kernel_rfl
@[simp] theorem GC(d:D)(xs:List D)(h:J):iH tab R "logtide/event.count" (.iface nX d::xs) h=R DB (d::xs) h:=by kernel_rfl
@[simp] theorem vE(d:D)(xs:List D)(h:J):iH tab R "logtide/event.number" (.iface nX d::xs) h=R DC (d::xs) h:=by kernel_rfl
@[simp] theorem y0(d:D)(xs:List D)(h:J):iH tab R "logtide/event.text" (.iface nX d::xs) h=R DD (d::xs) h:=by kernel_rfl
end Go.Proofs.YtkcdpfogoepamaaGreatDoor
namespace Go.Eng
abbrev eF:=@not_true
abbrev fV:=@List.getElem?_cons_succ
abbrev gL:=@List.map_append
abbrev g9:=@List.take_add_one
abbrev jT:=@List.head?_cons
abbrev kE:=@List.map_nil
abbrev lr:=@beq_self_eq_true
abbrev l7:=@Bool.false_and
abbrev om:=@List.pairwise_iff_getElem
abbrev qZ:=@Bool.and_false
abbrev sr:=@Int.fdiv_eq_ediv_of_nonneg
abbrev w7:=@Int.tdiv_eq_ediv_of_nonneg
abbrev AA:=@Bool.true_or
abbrev BI:=@Int.toNat_of_nonneg
abbrev BM:=@List.drop_eq_nil_iff
abbrev BQ:=@List.getElem?_set
abbrev Ca:=@Option.toList_some
abbrev Lt:=@Int.emod_eq_of_lt
abbrev Lu:=@Int.mul_le_mul_of_nonneg_right
abbrev LC:=@List.take_sublist
end Go.Eng
namespace Go.Proofs.YtkcdpfogoepamaaGreatDoor
open Go.Eng Go.Pi
open Option renaming bind_some → a7N
abbrev aD:=List UInt8
def aM(p:aD × aD):List D:=[.str p.1,.str p.2]
structure eV where
 off:Int
 len:Int
 fj:aD
 deriving DecidableEq
def cR(l:eV):List D:=[.int .i64 l.off,.int .i64 l.len,.str l.fj]
structure Ev where
 a0:Int
 a1:Int
 a2:Int
 a3:Int
 ls:List eV
 ld:D
 a5:Int
 a6:Int
 s7:aD
 s8:aD
 fs:List (aD × aD)
 fd:D
 gH:aI 2 aM fs fd
 hl:fs.length≤9223372036854775807
 ft:aI 3 cR ls ld
 qB:ls.length≤9223372036854775807
def bG(e:Ev):List D:=[.int .i64 e.a0,.int .i64 e.a1,.int .i64 e.a2,.int .i64 e.a3,e.ld,.int .i64 e.a5,.int .i64 e.a6,.str e.s7,.str e.s8,e.fd]
structure It where
 r:aD
 e:Ev
def aT(i:It):List D :=.str i.r::bG i.e
theorem pt(n0:Nat)(h:J)(n:Nat)(p:aD × aD):∀d∈aM p,cS n0 h n d=d:=by simp[-a7N,aM]
theorem u4(n:Nat)(p:aD × aD):∀d∈aM p,Ok n d:=by
 intro d a;simp[-a7N,aM]at a;rcases a with rfl|rfl<;>constructor
theorem nQ(n0:Nat)(h:J)(n:Nat)(p:eV):∀d∈cR p,cS n0 h n d=d:=by simp[-a7N,cR]
theorem zj(n:Nat)(p:eV):∀d∈cR p,Ok n d:=by
 intro d a;simp[-a7N,cR]at a;rcases a with rfl|rfl|rfl<;>constructor
theorem uW(n0:Nat)(h:J)(n:Nat)(e:Ev):∀d∈bG e,cS n0 h (n+1) d=d:=by
 intro d b;simp[-a7N,bG]at b;rcases b with rfl|rfl|rfl|rfl|rfl|rfl|rfl|rfl|rfl|rfl
 all_goals first|exact iJ e.ft (λa _=>nQ _ _ _ a)|exact iJ e.gH (λa _=>pt _ _ _ a)|simp[-a7N]
theorem sW(n:Nat)(e:Ev):∀d∈bG e,Ok n d:=by
 intro d b;simp[-a7N,bG]at b;rcases b with rfl|rfl|rfl|rfl|rfl|rfl|rfl|rfl|rfl|rfl
 all_goals first|exact e7 e.ft (λa _=>zj _ a)|exact e7 e.gH (λa _=>u4 _ a)|constructor
theorem pK(n:Nat)(i:It):Ok n (.agg (aT i)):=by
 refine .agg _ λc b=>?_
 simp[-a7N,aT,bG]at b;rcases b with rfl|rfl|rfl|rfl|rfl|rfl|rfl|rfl|rfl|rfl|rfl
 all_goals first|exact e7 i.e.ft (λa _=>zj _ a)|exact e7 i.e.gH (λa _=>u4 _ a)|constructor
theorem y3(n0:Nat)(h:J)(n:Nat)(i:It):∀d∈aT i,cS n0 h (n+1) d=d:=by
 intro d a;rcases fc.1 a with rfl|a
 ·simp[-a7N]
 ·exact uW n0 h n i.e d a
theorem GG(n:Nat)(i:It):∀d∈aT i,Ok n d:=by
 intro d a;rcases fc.1 a with rfl|a
 ·exact .str _
 ·exact sW n i.e d a
theorem kJ(e:Ev)(h:J):Y tab h aC (.aE (bG e))=some (.agg (bG e)):=id rfl
theorem pH(i:It):aB tab aH 1 (.aE (aT i))=some (.aE (bG i.e)):=id rfl
theorem pG(i:It):aB tab aH 0 (.aE (aT i))=some (.aE (aT i)):=id rfl
theorem pJ(i:It)(h:J):Y tab h bH (.aE (aT i))=some (.str i.r):=id rfl
theorem kL(i:It)(h:J):Y tab h aH (.aE (aT i))=some (.agg (aT i)):=id rfl
theorem mL(i:It):gM 11 (.agg (aT i))=some (.aE (aT i)):=nB 11 _ rfl
theorem Md(i:It):dL tab dO 1 [0] [.agg (aT i)]=some (.sl 11 true [aT i]):=id rfl
theorem toIt(i:It)(h:J):((aB tab aH 1 (.aE (aT i))).bind λp=>(aB tab aC 3 p).bind λa=>Y tab h U a)=some (.int .i64 i.e.a3):=by simp[-a7N,aT,bG]
theorem PU{h:J}{n e z m e' o i:Nat}{rows rows':List (List D)}{d d':D}(a:aR h n e z rows d)(b:aR h m e' o rows' d')(l:e≠e')(k:d.eC i):¬d'.eC i:=by
 rintro⟨u,q,rfl⟩;obtain⟨t,p,rfl⟩:=k;rcases a with⟨f,_⟩|⟨r,_,f,j⟩
 ·cases f
 rcases b with⟨g,_⟩|⟨s,_,g,c⟩
 ·cases g
 injection f with _ f;injection g with _ g;subst f;subst g;rw[j]at c;injection c with c;injection c with c;exact l c
theorem vW(l:eV)(h:J):Y tab h dD (.aE (cR l))=some (.agg (cR l)):=id rfl
theorem rD(l:aD × aD)(h:J):Y tab h bE (.aE (aM l))=some (.agg (aM l)):=id rfl
theorem a1F(a b:eV):O tab .neq dD (.agg (cR a)) (.agg (cR b))=some (.bool (decide (a≠b))):=by
 obtain⟨c,d,e⟩:=a;obtain⟨f,g,h⟩:=b;simp[-a7N,cR];by_cases i:c=f<;>by_cases j:d=g<;>by_cases k:e=h<;>simp[-a7N,i,j,k]
theorem N2(a b:aD × aD):O tab .neq bE (.agg (aM a)) (.agg (aM b))=some (.bool (decide (a≠b))):=by
 obtain⟨c,d⟩:=a;obtain⟨e,f⟩:=b;simp[-a7N,aM];by_cases g:c=e<;>by_cases h:d=f<;>simp[-a7N,g,h]
def aY(z:Int):List D:=[.int .u8 z]
theorem Zj{zs:List Int}{d:D}(a:kC .u8 zs d):aI 1 aY zs d:=by
 rcases a with⟨rfl,rfl⟩|rfl
 ·exact .inl ⟨rfl,rfl⟩
 ·exact .inr ⟨false,rfl⟩
theorem nC(n0:Nat)(h:J)(n:Nat)(z:Int):∀d∈aY z,cS n0 h n d=d:=by simp[-a7N,aY]
theorem pf(n:Nat)(z:Int):∀d∈aY z,Ok n d:=by
 intro d a;simp[-a7N,aY]at a;subst a;constructor
theorem rb(z:Int)(h:J):Y tab h cD (.aE (aY z))=some (.int .u8 z):=id rfl
def fh(n:Int):List Int:=[IntKind.wrap .u8 (n.fdiv (2 ^ 24)),IntKind.wrap .u8 (n.fdiv (2 ^ 16)),IntKind.wrap .u8 (n.fdiv (2 ^ 8)),IntKind.wrap .u8 n]
theorem HB(n:Int)(h:J):R rF [.int .u32 n] h=some (.sl 1 true ((fh n).map aY),h):=by
 rw[Us];simp only[I8,bs,ke,show ¬(24:Int)<0 by omega,show ¬(16:Int)<0 by omega,show ¬(8:Int)<0 by omega,aJ,S6,Sw,cP];rfl
theorem a0G(v:Int)(n0:Nat):∀(k:Nat),k≤4→∀(h:J) (rows:List (List D)) (d a:D),n0≤h.length→aR h n0 cD 1 rows d→rows.length+k≤1000000000→∃d' h' b,cA (q1 (.int .u64 v)) [d,.int .i64 ((k:Int) - 1),a] h=some (.ext 0,[d',b,.bool false],h') ∧
  aR h' n0 cD 1 (rows++(((fh v).drop (4 - k)).map aY)) d'∧h.length≤h'.length∧(∀c,c<h.length→¬d.eC c→h'[c]?=h[c]?)∧∀c,d'.eC c→d.eC c∨h.length≤c:=by
 intro k
 induction k with
 | zero =>
  intro _ h rows d a p q F;rw[iX];refine⟨d,h,_,by simp[-a7N,q1];rfl,?_,bB _,λ_ _ _=>rfl,λc e =>.inl e⟩;simpa[-a7N,fh]using q
 | succ k K =>
  intro Q h rows d a p q F;have C:(0:Int)≤((k+1:Nat):Int) - 1:=by omega
  have G:IntKind.wrap .i64 (8*(((k+1:Nat):Int) - 1))=8*(k:Int):=by rw[bJ (by omega) (by omega)];omega
  have H:IntKind.wrap .i64 (((k+1:Nat):Int) - 1 - 1)=(k:Int) - 1:=by rw[bJ (by omega) (by omega)];omega
  have A:¬(8*(k:Int))<0:=by omega
  have B:(fh v).drop (4 - (k+1))=IntKind.wrap .u8 (v.fdiv (2 ^ (min (8*(k:Int)).toNat IntKind.u64.bits)))::(fh v).drop (4 - k):=by
   have E:k=0∨k=1∨k=2∨k=3:=by omega
   rcases E with rfl|rfl|rfl|rfl
   ·simp[-a7N,fh,IntKind.bits]
   all_goals rfl
  have L:=@r6 h n0 p rows d (.sl 1 true [aY (IntKind.wrap .u8 (v.fdiv (2 ^ (min (8*(k:Int)).toNat IntKind.u64.bits))))]) q _ (hC _ _ _ _) (by simp;omega) _ (λf=>some f)
   (λf=>aR f.2 n0 cD 1 (rows++[aY (IntKind.wrap .u8 (v.fdiv (2 ^ (min (8*(k:Int)).toNat IntKind.u64.bits))))]) f.1∧h.length≤f.2.length∧(∀c,c<h.length→¬d.eC c→f.2[c]?=h[c]?)∧∀c,f.1.eC c→d.eC c∨h.length≤c) (λn h' a b _ u w =>.some ⟨a,b,u,w⟩)
  obtain⟨⟨n,l⟩,i,N,m,o,j⟩:=L;replace m:h.length≤l.length:=m;replace o:∀c,c<h.length→¬d.eC c→l[c]?=h[c]?:=o;replace j:∀c,n.eC c→d.eC c∨h.length≤c:=j;have x:dB tab h aP aP d (.sl 1 true [aY (IntKind.wrap .u8 (v.fdiv (2 ^ (min (8*(k:Int)).toNat IntKind.u64.bits))))])=some (n,l):=by
   cases e:dB tab h aP aP d (.sl 1 true [aY (IntKind.wrap .u8 (v.fdiv (2 ^ (min (8*(k:Int)).toNat IntKind.u64.bits))))])with
   |none=>rw[e]at i;cases i
   |some f=>rw[e]at i;exact i
  obtain⟨d',h',b,y,P,M,t,z⟩:=K (by omega) l _ n (.bool true) (fD p m) N (by simp;omega);refine⟨d',h',b,?_,?_,fD m M,λc e r=>(t c (by omega) λI=>by rcases j c I with g|g<;>first|exact r g|omega).trans (o c e r),λc e=>?_⟩
  ·rw[iX];simp only[q1,aW,bL,bs,mO,fX C,aK,aN,oJ,G,ke,A,aJ,xG,xw,show ∀s,([[D.int .u8 s]]:List (List D))=[aY s]from λ_=>rfl,x,eB,H];exact y
  ·rw[B,fP];simpa using P
  ·rcases z c e with g|g
   ·exact j c g
   ·right;omega
theorem QE(v:Int)(n0:Nat)(h:J)(rows:List (List D))(d:D)(c:n0≤h.length)(j:aR h n0 cD 1 rows d)(l:rows.length≤999999000):∃d' h',R lV [d,.int .u64 v,.int .i64 4] h=some (d',h')∧aR h' n0 cD 1 (rows++(fh v).map aY) d'∧h.length≤h'.length∧(∀a,a<h.length→¬d.eC a→h'[a]?=h[a]?)∧∀a,d'.eC a→d.eC a∨h.length≤a:=by
 obtain⟨d',h',k,b,f,g,i⟩:=a0G v n0 4 (by omega) h rows d .any c j (by omega);refine⟨d',h',?_,by simpa using f,g,i⟩;rw[Nb];have e:IntKind.wrap .i64 ((4:Int) - 1)=((4:Nat):Int) - 1:=by rw[bJ (by omega) (by omega)];rfl
 simp only[AO,bs,eB,e,aL,b,dA,cN,aW,cP]
def pW(c:Int):Int:=if c % 2=1 then IntKind.wrap .u32 (BitVec.ofInt IntKind.u32.bits (c.fdiv 2) ^^^ BitVec.ofInt IntKind.u32.bits 3988292384).toNat else c.fdiv 2
def jL(c:Int):Prop:=0≤c∧c<4294967296
theorem qV{n:Int}(a:0≤n)(b:n<4294967296):IntKind.wrap .u32 n=n:=by
 unfold IntKind.wrap;simp[-a7N,IntKind.signed,IntKind.bits,IntKind.min,IntKind.max];omega
theorem sL(x:BitVec IntKind.u32.bits):jL (x.toNat:Int):=by
 have:=x.isLt;have a:(2:Nat) ^ IntKind.u32.bits=4294967296:=by decide
 constructor<;>omega
theorem sa(x:BitVec IntKind.u32.bits):IntKind.wrap .u32 (x.toNat:Int)=x.toNat:=qV (sL x).1 (sL x).2
theorem Om{c:Int}(h:jL c):jL (c.fdiv 2):=by
 rw[sr _ (by omega)];unfold jL at *;omega
theorem a4Z{c:Int}(h:jL c):jL (pW c):=by
 unfold pW;split
 ·rw[sa];exact sL _
 ·exact Om h
theorem PN{c:Int}(h:jL c):((BitVec.ofInt IntKind.u32.bits c).toNat:Int)=c:=by
 rw[BitVec.toNat_ofInt];have a:((2 ^ IntKind.u32.bits:Nat):Int)=4294967296:=by decide
 rw[a,Lt h.1 h.2];exact BI h.1
theorem LP{c:Int}(h:jL c):IntKind.wrap .u32 (BitVec.ofInt IntKind.u32.bits c &&& BitVec.ofInt IntKind.u32.bits 1).toNat=c % 2:=by
 rw[sa,BitVec.toNat_and];have a:(BitVec.ofInt IntKind.u32.bits 1).toNat=1:=by decide
 rw[a,Nat.and_one_is_mod];have:=PN h;omega
theorem Hh:(2:Int) ^ (min (Int.toNat 1) IntKind.u32.bits)=2:=by decide
theorem a4Y{c:Int}(h:jL c):IntKind.wrap .u32 (BitVec.ofInt IntKind.u32.bits (c.fdiv 2) ^^^ BitVec.ofInt IntKind.u32.bits (IntKind.wrap .u32 (BitVec.ofInt IntKind.u32.bits 3988292384 &&& BitVec.ofInt IntKind.u32.bits (IntKind.wrap .u32 (0 - c % 2))).toNat)).toNat=pW c:=by
 have a:c % 2=0∨c % 2=1:=by omega
 unfold pW;rcases a with a|a
 ·rw[a];have b:IntKind.wrap .u32 (BitVec.ofInt IntKind.u32.bits 3988292384 &&& BitVec.ofInt IntKind.u32.bits (IntKind.wrap .u32 (0 - 0))).toNat=0:=by decide
  rw[b];have d:BitVec.ofInt IntKind.u32.bits 0=0#_:=by decide
  simp only[d,BitVec.xor_zero];rw[sa,PN (Om h)];simp[-a7N]
 ·rw[a];have b:IntKind.wrap .u32 (BitVec.ofInt IntKind.u32.bits 3988292384 &&& BitVec.ofInt IntKind.u32.bits (IntKind.wrap .u32 (0 - 1))).toNat=3988292384:=by decide
  rw[b];simp[-a7N]
def kQ:Nat→Int→Int
 |0,c=>c
 |n+1,c=>kQ n (pW c)
theorem HW:∀(n:Nat) {c:Int},jL c→jL (kQ n c)
 |0,c,h=>h
 |n+1,c,h=>HW n (a4Z h)
theorem z7:∀(n:Nat) (c:Int),kQ (n+1) c=pW (kQ n c)
 |0,c=>rfl
 | n+1,c=>by
  rw[kQ,z7 n (pW c)];rfl
def Ct(c z:Int):Int:=kQ 8 (IntKind.wrap .u32 (BitVec.ofInt IntKind.u32.bits c ^^^ BitVec.ofInt IntKind.u32.bits (IntKind.wrap .u32 z)).toNat)
def mN:Int→List Int→Int
 |c,[]=>c
 |c,z::r=>mN (Ct c z) r
def jr(l:List Int):Int:=IntKind.wrap .u32 (BitVec.ofInt IntKind.u32.bits (if IntKind.u32.signed then -1 else IntKind.u32.max) ^^^ BitVec.ofInt IntKind.u32.bits (mN 4294967295 l)).toNat
theorem MG(l:List Int):jL (jr l):=by unfold jr;rw[sa];exact sL _
theorem a0J(h:J){m:Type}{k:bK→Option m}{Q:m→Prop}(c:Int)(o:jL c)(a:D)(n:∀a b,Wp (k (.ext 2,[.int .u32 (kQ 8 c),a,b],h)) Q):Wp ((cA AR [.int .u32 c,.int .i64 0,a] h).bind k) Q:=by
 refine Wp.loop (λi f g=>g=h∧∃a,∃d:Nat,f=[.int .u32 (kQ d c),.int .i64 d,a]∧i+d=8) (λj=>j.1 = .ext 2∧j.2.2=h∧∃a b,j.2.1=[.int .u32 (kQ 8 c),a,b]) 8 ⟨rfl,_,0,rfl,rfl⟩ ?_ ?_
 ·rintro i f g ⟨rfl,a,d,rfl,q⟩;have l:=HW d o;simp only[AR,aW,bL,bs,aL,bS];refine Wp.dF ?_ ?_
  ·intro e;have e:d<8:=fe e;have p:=eR d (by omega);simp only[ke,show ¬(1:Int)<0 by omega,aJ,Hh,xH,bs,Tm,LP l,uS,a4Y l,cO,p,← z7];exact .some (.inl ⟨rfl,i - 1,by omega,rfl,_,d+1,rfl,by omega⟩)
  ·intro e;have e:d=8:=by
    have:¬(d:Int)<8:=by simpa using e
    omega
   subst e;exact .some (.inr ⟨by simp,rfl,rfl,_,_,rfl⟩)
 ·rintro⟨r,f,g⟩ ⟨rfl,rfl,a,b,rfl⟩;exact n a b
theorem a0I(h:J){n:Type}{m:bK→Option n}{Q:n→Prop}(c:Int)(p:jL c)(a e:D)(o:∀a b e,Wp (m (.ext 2,[.int .u32 (kQ 8 c),a,b,e],h)) Q):Wp ((cA AP [.int .u32 c,.int .i64 0,a,e] h).bind m) Q:=by
 refine Wp.loop (λl k j=>j=h∧∃a e,∃d:Nat,k=[.int .u32 (kQ d c),.int .i64 d,a,e]∧l+d=8) (λi=>i.1 = .ext 2∧i.2.2=h∧∃a b e,i.2.1=[.int .u32 (kQ 8 c),a,b,e]) 8 ⟨rfl,_,_,0,rfl,rfl⟩ ?_ ?_
 ·rintro l k j ⟨rfl,a,e,d,rfl,s⟩;have q:=HW d p;simp only[AP,aW,bL,bs,aL,bS];refine Wp.dF ?_ ?_
  ·intro g;have g:d<8:=fe g;have r:=eR d (by omega);simp only[xH,bs,LP q,e8];refine Wp.join (P:=λi=>i=(.aQ,[.int .u32 (kQ (d+1) c)],j)) ?_ ?_ ?_
   ·intro f;have f:kQ d c % 2=1:=by simpa using f
    simp only[ke,show ¬(1:Int)<0 by omega,aJ,Hh,bs,uS];refine .some ?_;rw[z7];simp[-a7N,pW,f]
   ·intro f;have f:¬kQ d c % 2=1:=by simpa using f
    simp only[ke,show ¬(1:Int)<0 by omega,aJ,Hh,bs];refine .some ?_;rw[z7];simp[-a7N,pW,f]
   ·rintro _ rfl;simp only[ga,cN,aW,bs,cO,r];exact .some (.inl ⟨rfl,l - 1,by omega,rfl,_,_,d+1,rfl,by omega⟩)
  ·intro g;have g:d=8:=by
    have:¬(d:Int)<8:=by simpa using g
    omega
   subst g;exact .some (.inr ⟨by simp,rfl,rfl,_,_,_,rfl⟩)
 ·rintro⟨t,k,j⟩ ⟨rfl,rfl,a,b,e,rfl⟩;exact o a b e
theorem CA:∀(l:List Int) (c z:Int),mN c (l++[z])=Ct (mN c l) z
 |[],c,z=>rfl
 |x::r,c,z=>CA r (Ct c x) z
theorem QF(l:List Int)(d:D)(h:J)(a:aI 1 aY l d∨∃n0 e,aR h n0 e 1 (l.map aY) d)(G:l.length≤9223372036854775807):R yc [d] h=some (.int .u32 (jr l),h):=by
 apply Wp.val;have w:bC tab aP d=some (.int .i64 l.length):=by
  rcases a with a|⟨n0,e,a⟩
  ·exact fm a
  ·rw[a1w a];simp[-a7N]
 have v:∀(i:Nat) (f:Int),l[i]?=some f→∃o,aO tab aP d (.int .i64 i)=some o∧Y tab h cD o=some (.int .u8 f):=by
  intro i f c;rcases a with a|⟨n0,e,a⟩
  ·exact⟨.aE (aY f),by rw[kh a];simp[-a7N,c],rb _ _⟩
  ·have s:=(bR.1 c).1;obtain⟨B,E,rfl,u⟩:=m5 a (i:=i) (by simpa using s);exact⟨.ptr B i 0,by simp[-a7N,s],by rw[zh,dM u];simp[-a7N,c,aY]⟩
 rw[Uv];simp only[Jd,bs,aL];refine Wp.loop (λn g j=>j=h∧∃k q e r,∃i:Nat,g=[.int .u32 (mN 4294967295 (l.take i)),.int .i64 i,k,q,e,r]∧n+i=l.length) (λp=>p.1 = .ext 0∧p.2.2=h∧Z 0 p.2.1 = .int .u32 (mN 4294967295 l)) l.length ⟨rfl,_,_,_,_,0,rfl,rfl⟩ ?_ ?_
 ·rintro n g j ⟨rfl,k,q,e,r,i,rfl,F⟩;simp only[Je,aW,bL,bs,aL,w,bS];refine Wp.dF ?_ ?_
  ·intro b;have b:i<l.length:=fe b;have c:l[i]?=some l[i]:=dG b;have t:l.take (i+1)=l.take i++[l[i]]:=by rw[g9,c];rfl
   generalize l[i]=f at c t;have A:=eR i (by omega);obtain⟨o,x,y⟩:=v i f c;simp only[x,y,bs,CC,uS];have z:kQ 8 (IntKind.wrap .u32 (BitVec.ofInt IntKind.u32.bits (mN 4294967295 (l.take i)) ^^^ BitVec.ofInt IntKind.u32.bits (IntKind.wrap .u32 f)).toNat)=mN 4294967295 (l.take (i+1)):=by rw[t,CA];rfl
   refine a0I j _ (by rw[sa];exact sL _) _ _ λC k e=>?_
   simp only[dA,ga,cN,aW,bL,bs,cO,A,z];exact .some (.inl ⟨rfl,n - 1,by omega,rfl,_,_,_,_,i+1,rfl,by omega⟩)
  ·intro b;have b:i=l.length:=by
    have:¬(i:Int)<l.length:=by simpa using b
    omega
   subst b;exact .some (.inr ⟨by simp,rfl,rfl,by simp⟩)
 ·rintro⟨H,g,j⟩ ⟨rfl,rfl,m⟩;replace m:Z 0 g=_:=m;simp only[dA,cN,aW,bs,m,MS,cP];exact .some rfl
theorem a3o(l r:List Int)(d e:D)(h:J)(n:aI 1 aY l d)(w:aI 1 aY r e)(F:l.length≤9223372036854775807):R Dj [d,e] h=some (.bool (decide (l=r)),h):=by
 apply Wp.val;rw[Ur];simp only[I6,bs,aL,fm n,fm w,dH];refine Wp.dF ?_ ?_
 ·intro i;have i:l.length≠r.length:=by
   have:¬(l.length:Int)=r.length:=by simpa using i
   omega
  have p:l≠r:=λo=>i (by rw[o])
  simp only[bs,cP];exact .some (by simp[-a7N,p])
 ·intro i;have i:l.length=r.length:=by
   have:(l.length:Int)=r.length:=by simpa using i
   omega
  refine Wp.loop (λs j m=>m=h∧∃t u v,∃a:Nat,j=[t,.int .i64 a,u,v]∧s+a=l.length∧l.take a=r.take a)
   (λb=>b.2.2=h∧((b.1 = .ret∧Z 0 b.2.1 = .bool false∧l≠r)∨(b.1 = .ext 0∧l=r))) l.length ⟨rfl,_,_,_,0,rfl,rfl,rfl⟩ ?_ ?_
  ·rintro s j m ⟨rfl,t,u,v,a,rfl,E,x⟩;simp only[I7,aW,bL,bs,aL,fm n,bS];refine Wp.dF ?_ ?_
   ·intro g;have g:a<l.length:=fe g;have k:l[a]?=some l[a]:=dG g;have c:r[a]?=some (r[a]'(by omega)):=dG (by omega);have C:=eR a (by omega);generalize l[a]=b at k;generalize r[a]'(by omega)=y at c;simp only[kh n,kh w,jJ,aN,eQ,k,c,hU,bs,rb,dH];refine Wp.dF ?_ ?_
    ·intro f;have f:b≠y:=by simpa using f
     try simp only[bs]
     refine .some (.inr ⟨by simp,rfl,.inl ⟨rfl,rfl,λo=>?_⟩⟩);subst o;rw[k]at c;injection c with c;exact f c
    ·intro f;have f:b=y:=by simpa using f
     subst f;simp only[cO,bs,C];refine .some (.inl ⟨rfl,s - 1,by omega,rfl,_,_,_,a+1,rfl,by omega,?_⟩);rw[g9,g9,x,k,c]
   ·intro g;have g:a=l.length:=by
     have:¬(a:Int)<l.length:=by simpa using g
     omega
    refine .some (.inr ⟨by simp,rfl,.inr ⟨rfl,?_⟩⟩);have z:l.take a=l:=hN (by omega);have A:r.take a=r:=hN (by omega);rw[← z,← A,x]
  ·rintro⟨b,j,m⟩ ⟨rfl,⟨rfl,q,p⟩|⟨rfl,B⟩⟩
   ·replace q:Z 0 j = .bool false:=q;simp only[jQ,jG,jX,aW,bs,q,cP];exact .some (by simp[-a7N,p])
   ·simp only[dA,cN,bs,cP];exact .some (by simp[-a7N,B])
theorem Ie:tab aP=some iK:=id rfl
theorem Ig:tab cD=some iE:=id rfl
theorem a5j:tab U=some m7:=id rfl
theorem Ah:iK.td = .sl cD:=id rfl
theorem a5k:m7.td = .int .i64:=id rfl
theorem Aj:iE.V=1:=id rfl
theorem a5l:iE.gf=1:=id rfl
theorem L7:Nat.blt 0 1=true:=id rfl
def sb:List D:=[.int .u8 0]
theorem a3p(n:Int)(h:J)(g:0≤n)(s:n≤1000000000):R Dk [.aA,.int .i64 n] h=if n=0 then some (.aA,h)else some (.aZ 1 h.length 0 0,aG h cD 1 (List.replicate n.toNat sb)):=by
 have b:uT tab aP .aA=some (.int .i64 0):=id rfl;have p:eN tab aP false true false [.aA,.int .i64 0]=some .aA:=id rfl;have m:¬n<0:=by omega
 have e:IntKind.wrap .i64 0=0:=bJ (by omega) (by omega);have r:IntKind.wrap .i64 n=n:=bJ (by omega) (by omega);rw[Uw];by_cases f:n=0
 ·subst f;simp[-a7N,AQ,b,e]
 ·have o:0<n:=by omega
  have k:eY n.toNat 1=true:=jD (by omega) (by omega);have c:eY n.toNat iE.gf=true:=k;obtain⟨a,d⟩:∃a,n.toNat=a+1:=⟨n.toNat - 1,by omega⟩
  have i:dB tab h aP U .aA (.int .i64 n)=some (.aZ 1 h.length 0 n.toNat,aG h cD 1 (List.replicate n.toNat sb)):=by
   have j:ix h m7 iE (.int .i64 n)=some (List.replicate n.toNat sb):=by
    simp only[ix,a5k,g,c,qT,aN];rfl
   unfold dB;simp only[Ie,a5j,Ah,Ig,j,Aj,L7];rw[d,BZ];have l:eY (a+1) iE.gf=true:=by rw[← d];exact c
   simp only[g7,BU,l,aN]
  have q:eN tab aP false true false [.aZ 1 h.length 0 n.toNat,.int .i64 0]=some (.aZ 1 h.length 0 0):=by
   simp[-a7N,eN,ia,kf,Ie,Ah,Ig,Aj];omega
  simp[-a7N,AQ,b,e,r,o,m,f,p,i,q]
theorem iF{n:Int}(a:0≤n)(b:n<18446744073709551616):IntKind.wrap .u64 n=n:=by
 unfold IntKind.wrap;simp[-a7N,IntKind.signed,IntKind.bits,IntKind.min,IntKind.max];omega
theorem PV{h:J}{n0 e z:Nat}{rows:List (List D)}{d:D}(a:aR h n0 e z rows d):gA h z d=some rows:=by
 rcases a with⟨rfl,rfl⟩|⟨c,_,rfl,b⟩
 ·rfl
 ·simp[-a7N,gA,b]
def ju(j p:List Int):Int:=if p.length=0∨8388608<p.length then 3 else if 67108864<j.length+8+p.length then 16 else 0
def ki(j p:List Int):List Int:=if ju j p=0 then j++fh p.length++fh (jr (fh p.length++p))++p else[]
theorem mW(n:Int):(fh n).length=4:=rfl
theorem QC(j p:List Int)(r s:D)(h:J)(x:aI 1 aY j r)(g:aI 1 aY p s)(bc:j.length≤100000000)(bd:p.length≤1000000000):∃d',R ya [r,s] h=some (.bD [d',.int .i64 (ju j p)],h)∧aI 1 aY (ki j p) d':=by
 rw[Uq];have T:=bJ (n:=(j.length:Int)+8) (by omega) (by omega);have X:=bJ (n:=(j.length:Int)+8+p.length) (by omega) (by omega);have y:∀n:Int,scope h h (.bD [.aA,.int .i64 n])=some (.bD [.aA,.int .i64 n],h):=λn=>ff (by simp) (.bD _ λag i=>by simp at i;rcases i with rfl|rfl<;>constructor) (bB _) λ_ _=>rfl
 by_cases f:p.length=0
 ·have b:ju j p=3:=by simp[-a7N,ju,f]
  exact⟨.aA,by simp[-a7N,si,fm g,f,b,y],.inl ⟨rfl,by simp[-a7N,ki,b]⟩⟩
 have H:¬p=[]:=by intro d;subst d;simp at f
 by_cases v:8388608<p.length
 ·have b:ju j p=3:=by simp[-a7N,ju,f,v]
  have o:(8388608:Int)<p.length:=by omega
  have E:¬(p.length:Int)=0:=by omega
  exact⟨.aA,by simp[-a7N,si,fm g,H,o,b,y],.inl ⟨rfl,by simp[-a7N,ki,b]⟩⟩
 have o:¬(8388608:Int)<p.length:=by omega
 have E:¬(p.length:Int)=0:=by omega
 by_cases F:67108864<j.length+8+p.length
 ·have b:ju j p=16:=by simp[-a7N,ju,f,v,F]
  have w:(67108864:Int)<j.length+8+p.length:=by omega
  exact⟨.aA,by simp[-a7N,si,fm g,fm x,H,o,T,X,w,b,y],.inl ⟨rfl,by simp[-a7N,ki,b]⟩⟩
 have w:¬(67108864:Int)<j.length+8+p.length:=by omega
 have b:ju j p=0:=by simp[-a7N,ju,f,v,F]
 suffices Wp (si r s h) (λQ=>∃d',Q=(.bD [d',.int .i64 0],h)∧aI 1 aY (ki j p) d') by
  obtain⟨Q,t,d',rfl,an⟩:=this;exact⟨d',by rw[b];exact t,an⟩
 have ap:IntKind.wrap .u64 (p.length:Int)=p.length:=iF (by omega) (by omega);simp only[si,bs,fm g,fm x,e8,dE,cO,T,X,E,o,w,bT,bZ,aN,bW,aU,aJ,aK,lx,ap];obtain⟨ah,ba,t,m,ax,ar,a5⟩:=QE p.length h.length h [] .aA (bB _) (aR.aA _ _ _ _) (by simp);refine Wp.step t ?_;simp only[bs];have l:∀a,¬D.aA.eC a:=λa ⟨_,_,d⟩=>by cases d
 rw[kp]at m;refine r6 ax (aR.aA _ _ _ _) (PV m) (by simp[-a7N,mW]) λbm al N bg ab au aj=>?_
 simp only[bs];rw[kp]at N;have L:=m.cL (h':=al) λa c e=>au a (m.lt e).2 (l a)
 refine r6 (by omega) N (mB _ g) (by simp[-a7N,mW];omega) λa3 B P bh ac av a6=>?_
 simp only[bs];have z:=L.cL (h':=B) λa c e=>av a (L.lt e).2 λk=>by
  rcases aj a k with d|d
  ·exact l a d
  ·have:=(m.lt e).2;omega
 rw[← gL]at P;rw[QF (fh p.length++p) a3 B (.inr ⟨_,_,P⟩) (by simp[-a7N,mW];omega)];simp only[bs];refine r6 (n0:=h.length) (by omega) (aR.aA _ _ _ _) (mB _ x) (by simp;omega) λbn C A bi ad aw ak=>?_
 have G:=MG (fh p.length++p);have aq:IntKind.wrap .u64 (jr (fh p.length++p))=jr (fh p.length++p):=iF G.1 (by have:=G.2;omega);simp only[bs,CE,aq];rw[kp]at A;have M:=z.cL (h':=C) λa c e=>aw a (z.lt e).2 (l a)
 obtain⟨a4,am,ai,az,bj,K,a7⟩:=QE (jr (fh p.length++p)) h.length C _ ah (by omega) M (by simp[-a7N,mW]);refine Wp.step ai ?_;simp only[bs];have ay:=A.cL (h':=am) λa c e=>K a (A.lt e).2 λk=>by
  rcases ak a e with d|d
  ·exact l a d
  ·have:=(z.lt k).2;omega
 refine r6 (by omega) ay (PV az) (by simp[-a7N,mW];omega) λbo bb a0 bk ae be a8=>?_
 simp only[bs];refine r6 (by omega) a0 (mB _ g) (by simp[-a7N,mW];omega) λaa u a1 bl af bf a9=>?_
 simp only[bs,gp];have ao:List.map aY j++List.map aY (fh p.length)++List.map aY (fh (jr (fh p.length++p)))++List.map aY p=List.map aY (ki j p):=by
  simp[-a7N,ki,b]
 have a2:aR u h.length cD 1 (List.map aY (ki j p)) aa:=by
  rw[← ao];simpa using a1
 have I:=gS (n0:=h.length) (n:=2) a2 (bB _) (λq _=>nC _ u _ q);rw[ff (d' :=.bD [cS h.length u 3 aa,.int .i64 0]) (by simp) (.bD _ λag i=>by
  simp at i;rcases i with rfl|rfl
  ·exact e7 I λq _=>pf _ q
  ·constructor) (by omega) (λa c=>by
  rw[af a c,ae a c,K a (by omega) (λk=>by have:=(M.lt k).1;omega),ad a c,ac a c,ab a c,ar a c (l a)])]
 exact .some ⟨_,rfl,I⟩
theorem s94(l r:List eV)(d e:D)(h:J)(n:aI 3 cR l d)(w:aI 3 cR r e)(F:l.length≤9223372036854775807):R DU [d,e] h=some (.bool (decide (l=r)),h):=by
 apply Wp.val;rw[V0];simp only[Li,bs,aL,hX n,hX w,dH];refine Wp.dF ?_ ?_
 ·intro i;have i:l.length≠r.length:=by
   have:¬(l.length:Int)=r.length:=by simpa using i
   omega
  have p:l≠r:=λo=>i (by rw[o])
  simp only[bs,cP];exact .some (by simp[-a7N,p])
 ·intro i;have i:l.length=r.length:=by
   have:(l.length:Int)=r.length:=by simpa using i
   omega
  refine Wp.loop (λs j m=>m=h∧∃t u v,∃a:Nat,j=[t,.int .i64 a,u,v]∧s+a=l.length∧l.take a=r.take a)
   (λb=>b.2.2=h∧((b.1 = .ret∧Z 0 b.2.1 = .bool false∧l≠r)∨(b.1 = .ext 0∧l=r))) l.length ⟨rfl,_,_,_,0,rfl,rfl,rfl⟩ ?_ ?_
  ·rintro s j m ⟨rfl,t,u,v,a,rfl,E,x⟩;simp only[Lj,aW,bL,bs,aL,hX n,bS];refine Wp.dF ?_ ?_
   ·intro g;have g:a<l.length:=fe g;have k:l[a]?=some l[a]:=dG g;have c:r[a]?=some (r[a]'(by omega)):=dG (by omega);have C:=eR a (by omega);generalize l[a]=b at k;generalize r[a]'(by omega)=y at c;simp only[m0 n,m0 w,jJ,aN,eQ,k,c,hU,bs,vW,a1F];refine Wp.dF ?_ ?_
    ·intro f;have f:b≠y:=by simpa using f
     try simp only[bs]
     refine .some (.inr ⟨by simp,rfl,.inl ⟨rfl,rfl,λo=>?_⟩⟩);subst o;rw[k]at c;injection c with c;exact f c
    ·intro f;have f:b=y:=by simpa using f
     subst f;simp only[cO,bs,C];refine .some (.inl ⟨rfl,s - 1,by omega,rfl,_,_,_,a+1,rfl,by omega,?_⟩);rw[g9,g9,x,k,c]
   ·intro g;have g:a=l.length:=by
     have:¬(a:Int)<l.length:=by simpa using g
     omega
    refine .some (.inr ⟨by simp,rfl,.inr ⟨rfl,?_⟩⟩);have z:l.take a=l:=hN (by omega);have A:r.take a=r:=hN (by omega);rw[← z,← A,x]
  ·rintro⟨b,j,m⟩ ⟨rfl,⟨rfl,q,p⟩|⟨rfl,B⟩⟩
   ·replace q:Z 0 j = .bool false:=q;simp only[jQ,jG,jX,aW,bs,q,cP];exact .some (by simp[-a7N,p])
   ·simp only[dA,cN,bs,cP];exact .some (by simp[-a7N,B])
theorem HN(l r:List (aD × aD))(d e:D)(h:J)(n:aI 2 aM l d)(w:aI 2 aM r e)(F:l.length≤9223372036854775807):R yK [d,e] h=some (.bool (decide (l=r)),h):=by
 apply Wp.val;rw[V1];simp only[Lk,bs,aL,hZ n,hZ w,dH];refine Wp.dF ?_ ?_
 ·intro i;have i:l.length≠r.length:=by
   have:¬(l.length:Int)=r.length:=by simpa using i
   omega
  have p:l≠r:=λo=>i (by rw[o])
  simp only[bs,cP];exact .some (by simp[-a7N,p])
 ·intro i;have i:l.length=r.length:=by
   have:(l.length:Int)=r.length:=by simpa using i
   omega
  refine Wp.loop (λs j m=>m=h∧∃t u v,∃a:Nat,j=[t,.int .i64 a,u,v]∧s+a=l.length∧l.take a=r.take a)
   (λb=>b.2.2=h∧((b.1 = .ret∧Z 0 b.2.1 = .bool false∧l≠r)∨(b.1 = .ext 0∧l=r))) l.length ⟨rfl,_,_,_,0,rfl,rfl,rfl⟩ ?_ ?_
  ·rintro s j m ⟨rfl,t,u,v,a,rfl,E,x⟩;simp only[Ll,aW,bL,bs,aL,hZ n,bS];refine Wp.dF ?_ ?_
   ·intro g;have g:a<l.length:=fe g;have k:l[a]?=some l[a]:=dG g;have c:r[a]?=some (r[a]'(by omega)):=dG (by omega);have C:=eR a (by omega);generalize l[a]=b at k;generalize r[a]'(by omega)=y at c;simp only[k7 n,k7 w,jJ,aN,eQ,k,c,hU,bs,rD,N2];refine Wp.dF ?_ ?_
    ·intro f;have f:b≠y:=by simpa using f
     try simp only[bs]
     refine .some (.inr ⟨by simp,rfl,.inl ⟨rfl,rfl,λo=>?_⟩⟩);subst o;rw[k]at c;injection c with c;exact f c
    ·intro f;have f:b=y:=by simpa using f
     subst f;simp only[cO,bs,C];refine .some (.inl ⟨rfl,s - 1,by omega,rfl,_,_,_,a+1,rfl,by omega,?_⟩);rw[g9,g9,x,k,c]
   ·intro g;have g:a=l.length:=by
     have:¬(a:Int)<l.length:=by simpa using g
     omega
    refine .some (.inr ⟨by simp,rfl,.inr ⟨rfl,?_⟩⟩);have z:l.take a=l:=hN (by omega);have A:r.take a=r:=hN (by omega);rw[← z,← A,x]
  ·rintro⟨b,j,m⟩ ⟨rfl,⟨rfl,q,p⟩|⟨rfl,B⟩⟩
   ·replace q:Z 0 j = .bool false:=q;simp only[jQ,jG,jX,aW,bs,q,cP];exact .some (by simp[-a7N,p])
   ·simp only[dA,cN,bs,cP];exact .some (by simp[-a7N,B])
def kO(a b:Ev):Bool:=decide (a.a0=b.a0)&&(decide (a.a1=b.a1)&&(decide (a.a2=b.a2)&&(decide (a.a3=b.a3)&&(decide (a.a5=b.a5)&&(decide (a.a6=b.a6)&&(decide (a.s7=b.s7)&&(decide (a.s8=b.s8)&&(decide (a.ls=b.ls)&&decide (a.fs=b.fs)))))))))
def lg(i j:It):Bool:=decide (i.r=j.r)&&kO i.e j.e
theorem s82(i j:It)(h:J):R DQ [.agg (aT i),.agg (aT j)] h=some (.bool (lg i j),h):=by
 apply Wp.val;rw[VT];simp only[K7,gq,bs,aL,pH,pG,pJ,kJ];generalize y:aG h aC 10 [[.int .i64 0,.int .i64 0,.int .i64 0,.int .i64 0,.aA,.int .i64 0,.int .i64 0,.str [],.str [],.aA]]=B;have Q:B.length=h.length+1:=by simp[-a7N,← y,aG]
 have N:∀b,b<h.length→B[b]?=h[b]?:=λb A=>by simp only[← y,aG];rw[fg A]
 have X:B[h.length]?=some (.row aC 10 [[.int .i64 0,.int .i64 0,.int .i64 0,.int .i64 0,.aA,.int .i64 0,.int .i64 0,.str [],.str [],.aA]]):=by simp[-a7N,← y,aG]
 clear y;refine m9 X (by rfl) (by rfl) (by simp) (by rfl) λw s L=>?_
 replace s:w[h.length]?=some (.row aC 10 [bG i.e]):=s;have K:w.length=h.length+1:=by rw[L.1,Q]
 try simp only[iN]
 rw[K];generalize z:aG w aC 10 [[.int .i64 0,.int .i64 0,.int .i64 0,.int .i64 0,.aA,.int .i64 0,.int .i64 0,.str [],.str [],.aA]]=C;have ad:h.length≤C.length:=by simp[-a7N,← z,aG];omega
 have I:∀b,b<h.length+1→C[b]?=w[b]?:=λb A=>by simp only[← z,aG];rw[fg (by omega)]
 have aa:C[h.length+1]?=some (.row aC 10 [[.int .i64 0,.int .i64 0,.int .i64 0,.int .i64 0,.aA,.int .i64 0,.int .i64 0,.str [],.str [],.aA]]):=by
  simp only[← z,aG];rw[← K,gO (bB _)];simp[-a7N]
 replace s:=(I h.length (by omega)).trans s;clear z;refine m9 aa (by rfl) (by rfl) (by simp) (by rfl) λp E F=>?_
 replace E:p[h.length+1]?=some (.row aC 10 [bG j.e]):=E;replace s:=(F.2 h.length (by omega)).trans s;have P:∀b,b<h.length→p[b]?=h[b]?:=λb A=>(((F.2 b (by omega)).trans (I b (by omega))).trans (L.2 b (by omega))).trans (N b A)
 have T:h.length≤p.length:=by have:=F.1;omega
 have k:p.row h.length 0=some (bG i.e):=dM s;have l:p.row (h.length+1) 0=some (bG j.e):=dM E;have f:∀v:Bool,scope h p (.bool v)=some (.bool v,h):=λv=>ff (by simp) (.bool v) T P
 obtain⟨ab,a⟩:=i;obtain⟨ac,c⟩:=j;by_cases d:ab=ac
 case neg=>exact⟨_,by simp[-a7N,d,f,lg],rfl⟩
 by_cases g:a.a0=c.a0
 case neg=>exact⟨_,by simp[-a7N,d,g,f,lg,kO,k,l,bG],rfl⟩
 by_cases m:a.a1=c.a1
 case neg=>exact⟨_,by simp[-a7N,d,g,m,f,lg,kO,k,l,bG],rfl⟩
 by_cases o:a.a2=c.a2
 case neg=>exact⟨_,by simp[-a7N,d,g,m,o,f,lg,kO,k,l,bG],rfl⟩
 by_cases q:a.a3=c.a3
 case neg=>exact⟨_,by simp[-a7N,d,g,m,o,q,f,lg,kO,k,l,bG],rfl⟩
 by_cases r:a.a5=c.a5
 case neg=>exact⟨_,by simp[-a7N,d,g,m,o,q,r,f,lg,kO,k,l,bG],rfl⟩
 by_cases t:a.a6=c.a6
 case neg=>exact⟨_,by simp[-a7N,d,g,m,o,q,r,t,f,lg,kO,k,l,bG],rfl⟩
 by_cases u:a.s7=c.s7
 case neg=>exact⟨_,by simp[-a7N,d,g,m,o,q,r,t,u,f,lg,kO,k,l,bG],rfl⟩
 by_cases x:a.s8=c.s8
 case neg=>exact⟨_,by simp[-a7N,d,g,m,o,q,r,t,u,x,f,lg,kO,k,l,bG],rfl⟩
 have G:=s94 a.ls c.ls a.ld c.ld p a.ft c.ft a.qB;have M:=HN a.fs c.fs a.fd c.fd p a.gH c.gH a.hl;by_cases D:a.ls=c.ls
 case neg=>exact⟨_,by simp[-a7N,d,g,m,o,q,r,t,u,x,D,f,lg,kO,k,l,bG,G],rfl⟩
 by_cases H:a.fs=c.fs
 case neg=>exact⟨_,by simp[-a7N,d,g,m,o,q,r,t,u,x,D,H,f,lg,kO,k,l,bG,G,M],rfl⟩
 exact⟨_,by simp[-a7N,d,g,m,o,q,r,t,u,x,D,H,f,lg,kO,k,l,bG,G,M],rfl⟩
theorem s61(a b:Ev)(h:J):R DO [.agg (bG a),.agg (bG b)] h=some (.bool (kO a b),h):=by
 rw[VP];have d:∀c:Ev,eD tab aH [1] [.agg (bG c)]=some (.agg (aT ⟨[],c⟩)):=λc=>id rfl
 simp[-a7N,K2,kJ,d,s82,lg]
def idx{α:Type}(a:α→Bool):Nat→List α→Int
 |_,[] => -1
 |k,x::r=>if a x=true then k else idx a (k+1) r
theorem GA{α:Type}(a:α→Bool):∀(l:List α) (k:Nat),decide (0≤idx a k l)=l.any a
 |[],k=>by simp[-a7N,idx]
 | x::r,k=>by
  unfold idx;by_cases h:a x=true
  ·simp[-a7N,h]
  ·simp[-a7N,h,GA a r]
theorem DZ{zs:List Int}{d:D}(a:kC .u8 zs d):bC tab aP d=some (.int .i64 zs.length):=by
 rcases a with⟨rfl,rfl⟩|rfl
 ·rfl
 ·simp[-a7N,ints]
theorem QS(o pos:Nat)(zs:List Int)(d:D)(h:J)(b:h[o]?=some (.row kU 2 [[d,.int .i64 pos]]))(a:kC .u8 zs d):R yE [.ptr o 0 0] h=some (.bool (decide (pos<zs.length)),h):=by
 rw[CW];simp[-a7N,KZ,J.row,b,DZ a]
theorem Zk{zs:List Int}{d:D}(b:kC .u8 zs d)(i:Nat)(z:Int)(a:zs[i]?=some z):aO tab aP d (.int .i64 i)=some (.aE [.int .u8 z]):=by
 rcases b with⟨rfl,rfl⟩|rfl
 ·cases a
 ·simp[-a7N,ints,a]
theorem a4X(h:J)(o k f:Nat)(v:D):aS tab h U (.ptr o k f) v=jw 1 h (.ptr o k f) v:=rfl
theorem s24(o pos:Nat)(zs:List Int)(d:D)(n z:Int)(h:J)(b:h[o]?=some (.row kU 2 [[d,.int .i64 pos]]))(a:kC .u8 zs d)(r:1≤n)(i:n≤1000000000)(c:zs[pos]?=some z)(l:0≤z)(s:z<256)(q:zs.length≤1000):
  R gP [.ptr o 0 0,.int .i64 n] h=some (.int .i64 (z*n / 256),h.set o (.row kU 2 [[d,.int .i64 ((pos+1:Nat):Int)]])):=by
 have j:pos<zs.length:=(bR.1 c).1;have g:¬n<1:=by omega
 have k:IntKind.wrap .i64 ((pos:Int)+1)=(pos:Int)+1:=bJ (by omega) (by omega);have m:IntKind.wrap .i64 z=z:=bJ (by omega) (by omega);rw[CU];simp[-a7N,wZ,QS o pos zs d h b a,j,g,J.row,b,Zk a pos z c,k,m,a4X,jw,D.fo,cX,D.one,dZ];have f:0≤z*n:=Int.mul_nonneg l (by omega);have p:z*n≤255*1000000000:=Int.mul_le_mul (by omega) i (by omega) (by omega);have e:IntKind.wrap .i64 (z*n)=z*n:=bJ (by omega) (by omega);rw[e,w7 f,bJ (by omega) (by omega)]
def CO(h:J)(o:Nat)(e:List Int):Prop:=∃(b:D) (a:List Int) (c:Nat),h[o]?=some (.row kU 2 [[b,.int .i64 c]])∧kC .u8 a b∧a.length≤1000∧e=a.drop c∧∀d∈a,0≤d∧d<256
def nx(n:Int):List Int→Int × List Int
 |[]=>(0,[])
 |z::r=>if n<1 then(0,z::r)else(z*n / 256,r)
theorem a1j{h:J}{o:Nat}{c:List Int}(e:CO h o c):R yE [.ptr o 0 0] h=some (.bool (decide (c≠[])),h):=by
 obtain⟨d,b,a,g,f,i,rfl,j⟩:=e;rw[QS o a b d h g f];have:(a<b.length)↔b.drop a≠[]:=by
  rw[dU,BM];omega
 congr 3;exact decide_eq_decide.2 this
theorem a2p{h:J}{o:Nat}{g:List Int}(e:CO h o g)(n:Int)(u:n≤1000000000):∃h',R gP [.ptr o 0 0,.int .i64 n] h=some (.int .i64 (nx n g).1,h')∧CO h' o (nx n g).2∧bM o h h':=by
 have k:=a1j e;cases b:g with
 | nil =>
  subst b;refine⟨h,?_,e,.refl _ _⟩;rw[CU];simp[-a7N,wZ,k,nx]
 | cons a t =>
  by_cases f:n<1
  ·refine⟨h,?_,by simpa[-a7N,nx,f,b]using e,.refl _ _⟩;rw[CU];simp[-a7N,wZ,k,nx,f,b]
  ·obtain⟨i,d,c,p,j,l,q,r⟩:=e;have s:d[c]?=some a:=by
    have:(d.drop c)[0]?=some a:=by rw[← q,b];rfl
    simpa using this
   have m:=r a (eW s);have v:o<h.length:=(bR.1 p).1;refine⟨_,(s24 o c d i n a h p j (by omega) u s m.1 m.2 l).trans (by rw[show(nx n (a::t)).1=a*n / 256 by simp[-a7N,nx,f]]),?_,?_⟩
   ·refine⟨i,d,c+1,by simp[-a7N,v],j,l,?_,r⟩;have:(d.drop c).drop 1=t:=by rw[← q,b];rfl
    simpa[-a7N,nx,f]using this.symm
   ·exact⟨by simp,λx w=>by rw[kZ (by omega)]⟩
theorem PM(n:Int)(a:List Int)(h:∀z∈a,0≤z∧z<256):0≤(nx n a).1∧(1≤n→(nx n a).1<n):=by
 cases a with
 |nil=>simp[-a7N,nx];omega
 | cons z e =>
  have:=h z (by simp);unfold nx;by_cases b:n<1
  ·simp[-a7N,b];omega
  ·simp only[b,aJ];have c:0≤z*n:=Int.mul_nonneg this.1 (by omega);have d:z*n≤255*n:=Lu (by omega) (by omega);constructor
   ·omega
   ·intro _;omega
def CD(h:J)(o:Nat):Prop:=∃a,CO h o a
theorem CD.cL{h h':J}{o:Nat}(b:CD h o)(c:h'[o]?=h[o]?):CD h' o:=by
 obtain⟨g,a,i,f,d,e⟩:=b;exact⟨g,a,i,f,by rw[c];exact d,e⟩
theorem CD.lt{h:J}{o:Nat}(a:CD h o):o<h.length:=by
 obtain⟨f,c,g,e,b,d⟩:=a;exact(bR.1 b).1
theorem CD.ok{h:J}{o:Nat}(e:CD h o)(n:Nat):∀T V rows,h[o]?=some (.row T V rows)→∀row∈rows,∀d∈row,Ok n d:=by
 obtain⟨j,d,l,i,g,f,_⟩:=e;intro T V rows a row b k c;rw[g]at a;injection a with a;injection a with _ _ a;subst a;simp at b;subst b;simp at c;rcases c with rfl|rfl
 ·exact Zl f n
 ·exact .int _ _
theorem hP{h:J}{o:Nat}(a:CD h o)(n:Int)(i:1≤n)(j:n≤1000000000):∃v h',R gP [.ptr o 0 0,.int .i64 n] h=some (.int .i64 v,h')∧CD h' o∧bM o h h'∧0≤v∧v<n:=by
 obtain⟨c,a⟩:=a;obtain⟨h',e,f,g⟩:=a2p a n j;have d:∀b∈c,0≤b∧b<256:=by
  obtain⟨m,t,s,r,p,q,rfl,k⟩:=a;exact λb l=>k b (fM l)
 exact⟨_,h',e,⟨_,f⟩,g,(PM n c d).1,(PM n c d).2 i⟩
theorem MJ{h:J}{o:Nat}(f:CD h o):∃s h',R x9 [.ptr o 0 0] h=some (.str s,h')∧CD h' o∧bM o h h'∧s.length≤7:=by
 obtain⟨j,h',b,c,d,a,e⟩:=hP f 14 (by omega) (by omega);obtain⟨s,i,g⟩:=qJ zo j a e;refine⟨s,h',?_,c,d,?_⟩
 ·rw[Ul];simp[-a7N,I2,b,a,g]
 ·exact(show ∀s∈zo,s.length≤7 by decide) s i
theorem Tb{h:J}{o:Nat}(f:CD h o):∃s h',R DN [.ptr o 0 0] h=some (.str s,h')∧CD h' o∧bM o h h'∧s.length≤19:=by
 obtain⟨j,h',b,c,d,a,e⟩:=hP f 11 (by omega) (by omega);obtain⟨s,i,g⟩:=qJ zn j a e;refine⟨s,h',?_,c,d,?_⟩
 ·rw[VO];simp[-a7N,KY,b,a,g]
 ·exact(show ∀s∈zn,s.length≤19 by decide) s i
theorem Ti{h:J}{o:Nat}(g:CD h o):∃n h',R yM [.ptr o 0 0] h=some (.int .i64 n,h')∧CD h' o∧bM o h h'∧1≤n∧n≤5040∧Int.tmod 5040 n=0:=by
 obtain⟨k,h',c,d,e,b,f⟩:=hP g 6 (by omega) (by omega);obtain⟨a,j,i⟩:=qJ G1 k b f;refine⟨a,h',?_,d,e,?_⟩
 ·rw[V3];simp[-a7N,Lo,c,b,i]
 ·exact(show ∀a∈G1,1≤a∧a≤5040∧Int.tmod 5040 a=0 by decide) a j
theorem Tc{h:J}{o:Nat}(q:CD h o):∃n h',R yD [.ptr o 0 0] h=some (.int .i64 n,h')∧CD h' o∧bM o h h'∧0≤n∧n≤253402300799999:=by
 obtain⟨m,h',f,g,i,r,s⟩:=hP q 4 (by omega) (by omega);rw[CV];by_cases j:m=0
 ·obtain⟨a,b,c,d,e,k,l⟩:=hP g 40 (by omega) (by omega);refine⟨a*86400000,b,?_,d,i.trans e,by omega,by omega⟩;simp[-a7N,w4,f,j,c,bJ (n:=a*86400000) (by omega) (by omega)]
 ·by_cases p:m=1
  ·obtain⟨a,b,c,d,e,k,l⟩:=hP g 3 (by omega) (by omega);refine⟨253402300799999 - a*86400000,b,?_,d,i.trans e,by omega,by omega⟩;simp[-a7N,w4,f,j,p,c,bJ (n:=a*86400000) (by omega) (by omega),bJ (n:=253402300799999 - a*86400000) (by omega) (by omega)]
  ·obtain⟨a,b,c,d,e,k,l⟩:=hP g 60 (by omega) (by omega);refine⟨1000+a,b,?_,d,i.trans e,by omega,by omega⟩;simp[-a7N,w4,f,j,p,c,bJ (n:=1000+a) (by omega) (by omega)]
structure St (h0:J) (o:Nat) (g:J):Prop where
 lt:o<h0.length
 cd:CD g o
 gr:lL h0.length o h0 g
theorem St.refl{h:J}{o:Nat}(a:CD h o):St h o h:=⟨a.lt,a,.refl _ _ _⟩
theorem St.next{a g g':J}{o:Nat}(s:St a o g)(b:CD g' o)(c:bM o g g'):St a o g':=⟨s.lt,b,s.gr.trans c.grow⟩
theorem St.app{b g g':J}{o:Nat}(s:St b o g)(d:g.length≤g'.length)(c:∀a,a<b.length→g'[a]?=g[a]?):St b o g':=⟨s.lt,s.cd.cL (c o s.lt),s.gr.trans ⟨d,λa e _=>c a e⟩⟩
theorem St.le{a g:J}{o:Nat}(s:St a o g):a.length≤g.length:=s.gr.1
theorem St.scope{a g:J}{o:Nat}(s:St a o g){d d':D}(f:cS a.length g 4 d=d')(h:Ok a.length d'):∃h',scope a g d=some (d',h')∧CD h' o∧bM o a h':=by
 obtain⟨b,c,e⟩:=a4L f h s.gr (s.cd.ok a.length);exact⟨_,b,s.cd.cL (e o s.lt),c⟩
theorem Td(zs:List Int)(d:D)(n:Int)(h:J)(e:kC .u8 zs d)(q:0≤n)(r:n≤1000)(m:∀z∈zs,0≤z∧z<256):∃h',R vv [d,.int .i64 n] h=some (.ptr h.length 0 0,h')∧CD h' h.length∧h'.length=h.length+1:=by
 rw[Nq];have c:∃a:Int,nG (.int .i64 zs.length) (.int .i64 n)=some (.int .i64 a)∧0≤a∧a≤zs.length∧a≤1000:=by
  rw[CK];split
  ·exact⟨_,rfl,by omega,by omega,by omega⟩
  ·exact⟨_,rfl,by omega,by omega,by omega⟩
 obtain⟨a,c,g,k,p⟩:=c;obtain⟨b,l,f⟩:=Oh (T:=tab) (t:=aP) (i:=iK) (j:=iE) (id rfl) (id rfl) (id rfl) (id rfl) e (k2 :=.i64) g k;simp only[BC,bs,DZ e,c,l,L4 b (Oi f)];rw[lj kU 2 h [b,.int .i64 0] rfl (by omega)];refine⟨_,rfl,⟨_,b,zs.take a.toNat,0,by simp[-a7N,aG],f,?_,rfl,λz o=>m z (fG o)⟩,by simp[-a7N,aG]⟩;simp[-a7N];omega
theorem Th{h:J}{o:Nat}(B:CD h o):∃s h',R yL [.ptr o 0 0] h=some (.str s,h')∧CD h' o∧bM o h h'∧s.length≤34:=by
 suffices Wp (R yL [.ptr o 0 0] h) (λm=>∃s,m.1 = .str s∧CD m.2 o∧bM o h m.2∧s.length≤34) by
  obtain⟨⟨I,h'⟩,t,s,rfl,l⟩:=this;exact⟨s,h',t,l⟩
 rw[V2];simp only[Lm,bs,aL];obtain⟨s,t,z,x,F,K⟩:=MJ B;refine Wp.step z ?_;simp only[bs];obtain⟨p,l,k,i,n,g,w⟩:=hP x 4 (by omega) (by omega);refine Wp.step k ?_;simp only[bs];refine Wp.loop (λa j d=>∃s b,j=[.str s,.int .i64 a,b]∧CD d o∧bM o h d∧a≤3∧s.length+9*a≤34) (λe=>e.1 = .ext 0∧∃s b q,e.2.1=[.str s,b,q]∧CD e.2.2 o∧bM o h e.2.2∧s.length≤34) p.toNat ⟨s,.any,by rw[BI g],i,F.trans n,by omega,by omega⟩ ?_ ?_
 ·rintro a j d ⟨s,b,rfl,c,f,N,u⟩;simp only[Ln,aW,bL,bs,dE];refine Wp.dF ?_ ?_
  ·intro r;have r:0<(a:Int):=by simpa using r
   simp only[a1X,bs];obtain⟨p,l,k,i,n,g,w⟩:=hP c 5 (by omega) (by omega);obtain⟨v,E,C⟩:=qJ G2 p g w;have P:=(show ∀s∈G2,s.length≤2 by decide) v E;refine Wp.step k ?_;simp only[tp,g,aN,eE,C,hU,bs,gW];obtain⟨H,M,A,y,G,L⟩:=MJ i;refine Wp.step A ?_;rw[MM _ _ _ _ (by omega)];simp only[bs];rw[MM _ _ _ _ (by simp;omega)];have D:IntKind.wrap .i64 ((a:Int) - 1)=((a - 1:Nat):Int):=by
    rw[bJ (by omega) (by omega)];omega
   simp only[bs,eB,iN,D];exact .some (.inl ⟨rfl,a - 1,by omega,s++(v++H),_,rfl,y,(f.trans n).trans G,by omega,by simp;omega⟩)
  ·intro _;exact .some (.inr ⟨by simp,rfl,s,_,_,rfl,c,f,by omega⟩)
 ·rintro⟨I,j,d⟩ ⟨rfl,s,b,q,rfl,c,f,u⟩;simp only[dA,cN,aW,bs,cP];exact .some ⟨s,rfl,c,f,u⟩
def w5(l:List (aD × aD)):Prop:=(l.map (·.1)).Sublist mq∧∀a∈l,a.2.length≤19
theorem Tj{h:J}{o:Nat}(s:CD h o):∃x h',R vz [.ptr o 0 0] h=some (x,h')∧CD h' o∧bM o h h'∧∃l,aI 2 aM l x∧w5 l:=by
 suffices Wp (R vz [.ptr o 0 0] h) (λe=>CD e.2 o∧bM o h e.2∧∃l,aI 2 aM l e.1∧w5 l) by
  obtain⟨⟨x,h'⟩,w,y⟩:=this;exact⟨x,h',w,y⟩
 rw[V4];simp only[Lp,bs,aL,a1Z];refine Wp.loop (λt r c=>∃x d m,∃(a:Nat) (l:List (aD × aD)),r=[x,.int .i64 a,d,m]∧St h o c∧t+a=4∧aR c h.length bE 2 (l.map aM) x∧(l.map (·.1)).Sublist (mq.take a)∧∀e∈l,e.2.length≤19)
  (λk=>k.1 = .ext 0∧∃x d m v l,k.2.1=[x,d,m,v]∧St h o k.2.2∧aR k.2.2 h.length bE 2 (l.map aM) x∧w5 l) 4 ⟨.aA,.any,.any,0,[],rfl,.refl s,rfl,aR.aA _ _ _ _,by simp,by simp⟩ ?_ ?_
 ·rintro t r c ⟨x,d,m,a,l,rfl,f,ab,b,j,p⟩;have S:IntKind.wrap .i64 ((a:Int)+1)=(a+1:Nat):=by
   rw[bJ (by omega) (by omega)];omega
  simp only[Lq,aW,bL,bs,a1l,fN,a1Y,bS];refine Wp.dF ?_ ?_
  ·intro g;have g:a<4:=fe g;obtain⟨ad,w,G,E,B,ae,af⟩:=hP f.cd 3 (by omega) (by omega);have q:=f.next E B;replace b:=b.same B s.lt;refine Wp.step G ?_;simp only[e8,bs];refine Wp.join (P:=λk=>∃x c,∃l:List (aD × aD),k=(.aQ,[x],c)∧St h o c∧aR c h.length bE 2 (l.map aM) x∧(l.map (·.1)).Sublist (mq.take (a+1))∧∀e∈l,e.2.length≤19) ?_ ?_ ?_
   ·intro _;have z:mq[a]?=some mq[a]:=dG g;simp only[tp,jJ,aN,eQ,eE,z,hU,bs,gW];obtain⟨X,y,H,F,C,Q⟩:=Tb q.cd;have u:=q.next F C;replace b:=b.same C s.lt;refine Wp.step H ?_;simp only[bs,R9,SA];have ac:l.length≤4:=by
     have:=j.length_le;simp at this;omega
    refine wA u.le b (hC _ _ _ _) (by simp;omega) λaa I b T D _ _=>?_
    simp only[bs,iN];refine .some ⟨aa,I,l++[(mq[a],X)],rfl,u.app T D,by rw[gL];exact b,?_,?_⟩
    ·rw[g9,z,gL];exact j.append (List.Sublist.refl _)
    ·intro e i;rcases fp.1 i with i|i
     ·exact p e i
     ·simp at i;subst i;exact Q
   ·intro _;refine .some ⟨_,_,l,rfl,q,b,j.trans ?_,p⟩;rw[g9];exact List.sublist_append_left _ _
   ·rintro _ ⟨x,c,l,rfl,f,b,j,p⟩;simp only[ga,cN,aW,cO,bs,S];exact .some (.inl ⟨rfl,t - 1,by omega,x,_,_,a+1,l,rfl,f,by omega,b,j,p⟩)
  ·intro g;have g:¬a<4:=by
    have:¬(a:Int)<4:=by simpa using g
    omega
   refine .some (.inr ⟨by simp,rfl,x,_,_,_,l,rfl,f,b,j.trans (LC _ _),p⟩)
 ·rintro⟨x,r,c⟩ ⟨rfl,x,d,m,v,l,rfl,f,b,L⟩;simp only[dA,cN,aW,bs,cP];have A:=gS (n:=3) b (bB _) (λd _=>pt _ c _ d);obtain⟨h',M,K,N⟩:=f.scope rfl (e7 A λd _=>u4 _ d);exact⟨_,M,K,N,l,A,L⟩
def chain:Int→List eV→Int→Prop
 |a,[],b=>a=b
 |a,l::r,b=>l.off=a∧1≤l.len∧l.len≤36∧l.fj.length+1≤l.len∧chain (a+l.len) r b
theorem Mq:∀(f:List eV) (a b:Int) (l:eV),chain a f b→l.off=b→1≤l.len→l.len≤36→l.fj.length+1≤l.len→chain a (f++[l]) (b+l.len)
 | [],a,b,l,h,c,h2,d,e=>by
  simp only[chain]at h;subst h;exact⟨c,h2,d,e,rfl⟩
 |x::r,a,b,l,h,c,h2,d,e=>⟨h.1,h.2.1,h.2.2.1,h.2.2.2.1,Mq r _ b l h.2.2.2.2 c h2 d e⟩
def blank(l:eV):eV:={ l with fj:=[] }
theorem Cw:∀(c:List eV) (a b:Int),chain a c b→chain a (c.map blank) b
 |[],a,b,h=>h
 |x::r,a,b,h=>⟨h.1,h.2.1,h.2.2.1,by simp[-a7N,blank];exact h.2.1,Cw r _ b h.2.2.2.2⟩
theorem qg:∀(c:List eV) (a b:Int),chain a c b→a+c.length≤b∧b≤a+36*c.length
 |[],a,b,h=>by simp[-a7N,chain]at h;simp[-a7N];omega
 | x::r,a,b,h=>by
  have:=qg r _ b h.2.2.2.2;have:=h.2.1;have:=h.2.2.1;simp only[g7];omega
structure ob (hst fil frm:Int) (i:It):Prop where
 host:i.e.a0=hst
 file:i.e.a1=fil
 fr:i.e.a2=frm
 ch:chain frm i.e.ls i.e.a3
 n1:1≤i.e.ls.length
 n3:i.e.ls.length≤3
 ev:i.r=[]→0≤i.e.a5∧i.e.a5≤253402300799999∧1≤i.e.a6∧i.e.a6≤5040∧i.e.s7∈vY∧i.e.s8∈vZ∧w5 i.e.fs∧∀l∈i.e.ls,l.len≤l.fj.length+2
 wt:i.r=[]→Int.tmod 5040 i.e.a6=0
 sk:i.r≠[]→i.r∈qF∧i.e.a5=0∧i.e.a6=0∧i.e.s7=[]∧i.e.s8=[]∧i.e.fs=[]∧∀l∈i.e.ls,l.fj=[]
theorem QZ(a:List eV)(i:Nat)(hi:i<a.length):(((a.take i).map blank++a.drop i).map cR).set i (cR (blank a[i]))=((a.take (i+1)).map blank++a.drop (i+1)).map cR:=by
 rw[hS hi,g9,dG hi];simp only[gL,fP,Ca,kE];rw[oo _ _ (by simp;omega)];simp[-a7N,xf (B5 hi)]
theorem Og(a:List eV)(i:Nat)(hi:i<a.length):(((a.take i).map blank++a.drop i).map cR)[i]?=some (cR a[i]):=by
 rw[hS hi,eE,gO (by simp;omega)];simp[-a7N,xf (B5 hi)];exact⟨_,dG hi,rfl⟩
theorem GQ{h:J}{a T z:Nat}{cs:List D}(c:h[a]?=some (.row T z [cs]))(b:cs.length=10):Y tab h aC (.ptr a 0 0)=some (.agg cs):=by
 rw[tA,dM c];simp[-a7N,nW,b];exact hN (by omega)
theorem nP{h:J}{a T z:Nat}{cs:List D}(c:h[a]?=some (.row T z [cs]))(b:cs.length=11):Y tab h aH (.ptr a 0 0)=some (.agg cs):=by
 rw[pM,dM c];simp[-a7N,nW,b];exact hN (by omega)
theorem a1T:∀s∈qF,s≠[]:=by decide
theorem Tg {h:J} {o:Nat} (b0:CD h o) (l k fr:Int) (db:0≤fr) (dc:fr≤1000000000):∃i h',R yI [.ptr o 0 0,.int .i64 l,.int .i64 k,.int .i64 fr] h=some (.agg (aT i),h')∧CD h' o∧bM o h h'∧ob l k fr i:=by
 suffices Wp (R yI [.ptr o 0 0,.int .i64 l,.int .i64 k,.int .i64 fr] h) (λbe=>∃i,be.1 = .agg (aT i)∧CD be.2 o∧bM o h be.2∧ob l k fr i) by
  obtain⟨⟨g,h'⟩,bz,i,rfl,cm⟩:=this;exact⟨i,h',bz,cm⟩
 have df:=b0.lt;rw[VU];simp only[K8,bs,aL,Se];generalize aj:aG (aG h aH 11 [[.str [],.int .i64 0,.int .i64 0,.int .i64 0,.int .i64 0,.aA,.int .i64 0,.int .i64 0,.str [],.str [],.aA]]) aC 10 [[.int .i64 0,.int .i64 0,.int .i64 0,.int .i64 0,.aA,.int .i64 0,.int .i64 0,.str [],.str [],.aA]]=a3;have bj:St h o a3:=(St.refl b0).app (by simp[-a7N,← aj,aG]) (λf m=>by simp only[← aj,aG];rw[fg (by simp;omega),fg m]);have b:a3[h.length]?=some (.row aH 11 [[.str [],.int .i64 0,.int .i64 0,.int .i64 0,.int .i64 0,.aA,.int .i64 0,.int .i64 0,.str [],.str [],.aA]]):=by
  simp only[← aj,aG];rw[fg (by simp),gO (bB _)];simp[-a7N]
 have c:a3[h.length+1]?=some (.row aC 10 [[.int .i64 0,.int .i64 0,.int .i64 0,.int .i64 0,.aA,.int .i64 0,.int .i64 0,.str [],.str [],.aA]]):=by
  simp only[← aj,aG];rw[gO (by simp)];simp[-a7N]
 have b5:(aG h aH 11 [[.str [],.int .i64 0,.int .i64 0,.int .i64 0,.int .i64 0,.aA,.int .i64 0,.int .i64 0,.str [],.str [],.aA]]).length=h.length+1:=by simp[-a7N,aG]
 rw[b5];clear b5 aj;have sm:∀{p v:J},bM (h.length+1) p v→lL h.length o p v:=λX=>⟨mH X.1.symm,λf m _=>X.2 f (by omega)⟩
 refine m9 c (by rfl) (by rfl) (by simp) (by rfl) λG T a=>?_
 replace T:G[h.length+1]?=some (.row aC 10 [[.int .i64 l,.int .i64 k,.int .i64 fr,.int .i64 0,.aA,.int .i64 0,.int .i64 0,.str [],.str [],.aA]]):=T;replace b:=(a.2 h.length (by omega)).trans b;have u:St h o G:=bj.app (mH a.1.symm) λf m=>a.2 f (by omega)
 clear c a bj;obtain⟨F,bz,Q,K,z,C,M⟩:=hP u.cd 3 (by omega) (by omega);replace T:=(z.2 (h.length+1) (by omega)).trans T;replace b:=(z.2 h.length (by omega)).trans b;have s:=u.next K z;refine Wp.step Q ?_;simp only[cO,bs];rw[bJ (n:=1+F) (by omega) (by omega)];refine Wp.loop (λB P w=>∃j:Int,∃p v ah g,∃e:List eV,P=[.int .i64 j,.int .i64 B,p,v,ah]∧St h o w∧w[h.length]?=some (.row aH 11 [[.str [],.int .i64 0,.int .i64 0,.int .i64 0,.int .i64 0,.aA,.int .i64 0,.int .i64 0,.str [],.str [],.aA]])
   ∧ w[h.length+1]?=some (.row aC 10 [[.int .i64 l,.int .i64 k,.int .i64 fr,.int .i64 0,g,.int .i64 0,.int .i64 0,.str [],.str [],.aA]])∧aR w (h.length+2) dD 3 (e.map cR) g∧chain fr e j∧e.length+B=(1+F).toNat∧∀L∈e,L.len≤L.fj.length+2)
  (λy=>y.1 = .ext 0∧∃j:Int,∃p v ah d g,∃e:List eV,y.2.1=[.int .i64 j,p,v,ah,d]∧St h o y.2.2∧y.2.2[h.length]?=some (.row aH 11 [[.str [],.int .i64 0,.int .i64 0,.int .i64 0,.int .i64 0,.aA,.int .i64 0,.int .i64 0,.str [],.str [],.aA]])
   ∧ y.2.2[h.length+1]?=some (.row aC 10 [[.int .i64 l,.int .i64 k,.int .i64 fr,.int .i64 0,g,.int .i64 0,.int .i64 0,.str [],.str [],.aA]])∧aR y.2.2 (h.length+2) dD 3 (e.map cR) g∧chain fr e j∧1≤e.length∧e.length≤3∧∀L∈e,L.len≤L.fj.length+2)
  (1+F).toNat ⟨fr,.any,.any,.any,.aA,[],by rw[BI (by omega)],s,b,T,aR.aA _ _ _ _,rfl,by simp,by simp⟩ ?_ ?_
 ·clear Q u s T b K z;rintro B P w ⟨j,p,v,ah,g,e,rfl,A,b,c,x,ac,cq,ax⟩;simp only[K9,aW,bL,bs,dE];refine Wp.dF ?_ ?_
  ·intro t;have t:0<(B:Int):=by simpa using t
   obtain⟨ar,G,Q,K,z,dg⟩:=Th A.cd;have u:=A.next K z;refine Wp.step Q ?_;simp only[gn,cO,bs];obtain⟨bg,r,ab,N,E,dj,dk⟩:=hP K 2 (by omega) (by omega);have s:=u.next N E;have bf:=z.trans E;replace c:=(bf.2 (h.length+1) (by omega)).trans c;replace b:=(bf.2 h.length (by omega)).trans b;replace x:=x.same bf (by omega);refine Wp.step ab ?_;have bh:=bJ (n:=(ar.length:Int)+1) (by omega) (by omega);have bi:=bJ (n:=(ar.length:Int)+1+bg) (by omega) (by omega);simp only[bs,aL,cO,bh,bi,jY,m2,dM c,fC,bs,eS,jS,il,jT,Sh,Sy];have de:h.length+1<r.length:=(bR.1 c).1;have da:=qg _ _ _ ac;refine r7 (by omega) x (hC _ _ _ _) (by simp;omega) λaa cl ay cy a2 dh _=>?_
   have cj:=s.app cy λf m=>a2 f (by omega)
   replace c:=(a2 (h.length+1) (by omega)).trans c;replace b:=(a2 h.length (by omega)).trans b;simp only[bs];refine qX c (by rfl) (by cases aa<;>first|rfl|(have:=jj ay;simp[-a7N,D.one]at this)) (by simp) (by cases aa<;>first|rfl|(have:=jj ay;simp[-a7N,D.one]at this)) λaw q a=>?_
   have jg:cX aa=[aa]:=by cases aa<;>first|rfl|(have:=jj ay;simp[-a7N,D.one]at this)
   rw[jg]at q;replace c:aw[h.length+1]?=some (.row aC 10 [[.int .i64 l,.int .i64 k,.int .i64 fr,.int .i64 0,aa,.int .i64 0,.int .i64 0,.str [],.str [],.aA]]):=q;replace b:=(a.2 h.length (by omega)).trans b;have av:St h o aw:=cj.app (mH a.1.symm) λf m=>a.2 f (by omega)
   have az:=ay.cL (h':=aw) λf m _=>a.2 f (by omega)
   have c4:=bJ (n:=j+((ar.length:Int)+1+bg)) (by omega) (by omega);have cr:IntKind.wrap .i64 ((B:Int) - 1)=((B - 1:Nat):Int):=by
    rw[bJ (by omega) (by omega)];omega
   simp only[cO,bs,eB,c4,cr];refine .some (.inl ⟨rfl,B - 1,by omega,_,_,_,_,aa,e++[⟨j,(ar.length:Int)+1+bg,ar⟩],rfl,av,b,c,by rw[gL];exact az,Mq _ _ _ _ ac rfl (by simp;omega) (by simp;omega) (by simp;omega),by simp;omega,?_⟩);intro L H;rcases fp.1 H with H|H
   ·exact ax L H
   ·simp at H;subst H;simp[-a7N];omega
  ·intro t;have t:¬0<(B:Int):=by simpa using t
   exact .some (.inr ⟨by simp,rfl,_,_,_,_,_,g,e,rfl,A,b,c,x,ac,by omega,by omega,ax⟩)
 ·clear Q u s T b K z;rintro⟨ck,P,w⟩ ⟨rfl,j,p,v,ah,d,g,e,rfl,A,b,c,x,ac,b3,b4,ax⟩;simp only[dA,cN,aW,bs,s3];refine lJ c (by rfl) (by rfl) (by simp) (by rfl) λG q a=>?_
  replace c:G[h.length+1]?=some (.row aC 10 [[.int .i64 l,.int .i64 k,.int .i64 fr,.int .i64 j,g,.int .i64 0,.int .i64 0,.str [],.str [],.aA]]):=q;replace b:=(a.2 h.length (by omega)).trans b;have u:St h o G:=A.app (mH a.1.symm) λf m=>a.2 f (by omega)
  have ad:=x.cL (h':=G) λf m _=>a.2 f (by omega)
  clear A a q x;obtain⟨F,r,ab,N,E,C,M⟩:=hP u.cd 5 (by omega) (by omega);replace c:=(E.2 (h.length+1) (by omega)).trans c;replace b:=(E.2 h.length (by omega)).trans b;have s:=u.next N E;have I:=ad.same E (by omega);refine Wp.step ab ?_;simp only[e8,bs];refine Wp.dF ?_ ?_
  ·intro _;refine Wp.loop (λB P w=>∃v,∃i:Nat,P=[.int .i64 i,v]∧St h o w∧w[h.length]?=some (.row aH 11 [[.str [],.int .i64 0,.int .i64 0,.int .i64 0,.int .i64 0,.aA,.int .i64 0,.int .i64 0,.str [],.str [],.aA]])
    ∧ w[h.length+1]?=some (.row aC 10 [[.int .i64 l,.int .i64 k,.int .i64 fr,.int .i64 j,g,.int .i64 0,.int .i64 0,.str [],.str [],.aA]])∧aR w (h.length+2) dD 3 (((e.take i).map blank++e.drop i).map cR) g∧B+i=e.length)
    (λy=>y.1 = .ext 2∧∃p v,y.2.1=[p,v]∧St h o y.2.2∧y.2.2[h.length]?=some (.row aH 11 [[.str [],.int .i64 0,.int .i64 0,.int .i64 0,.int .i64 0,.aA,.int .i64 0,.int .i64 0,.str [],.str [],.aA]])
    ∧ y.2.2[h.length+1]?=some (.row aC 10 [[.int .i64 l,.int .i64 k,.int .i64 fr,.int .i64 j,g,.int .i64 0,.int .i64 0,.str [],.str [],.aA]])∧aR y.2.2 (h.length+2) dD 3 ((e.map blank).map cR) g) e.length ⟨.any,0,rfl,s,b,c,by simpa using I,rfl⟩ ?_ ?_
   ·clear u ad ab N E s b c I;rintro B P w ⟨v,i,rfl,A,b,c,x,cq⟩;have a8:(((e.take i).map blank++e.drop i).map cR).length=e.length:=by simp;omega
    have b6:=O9 x;rw[a8]at b6;simp only[La,aW,bL,bs,aL,jY,m2,dM c,fC,eS,jS,il,jT,b6,bS];refine Wp.dF ?_ ?_
    ·intro t;have ak:i<e.length:=by
      have:(i:Int)<e.length:=by simpa using t
      omega
     obtain⟨cz,cs,rfl,co⟩:=m5 x (i:=i) (by rw[a8];exact ak);rw[a8]at *;have cp:(i:Int)<e.length:=by omega
     have cx:=eR i (by omega);simp only[y6,jJ,cp,jq,aN,eS,eQ,bs,mh];refine pZ co (Og e i ak) (by rfl) (by simp[-a7N,cR]) (by rfl) λG b2 a=>?_
     have ct:(((e.take i).map blank++e.drop i).map cR).set i (dZ (cR e[i]) 2 (cX (.str [])))=((e.take (i+1)).map blank++e.drop (i+1)).map cR:=QZ e i ak;rw[ct]at b2;simp only[cO,bs,cx];refine .some (.inl ⟨rfl,B - 1,by omega,_,i+1,rfl,A.app (mH a.1.symm) λf m=>a.2 f (by omega),(a.2 _ (by omega)).trans b,(a.2 _ (by omega)).trans c,?_,by omega⟩);refine .inr ⟨cz,cs,?_,b2⟩;congr 1;simp[-a7N];omega
    ·intro t;have ak:i=e.length:=by
      have:¬(i:Int)<e.length:=by simpa using t
      omega
     subst ak;refine .some (.inr ⟨by simp,rfl,_,_,rfl,A,b,c,by simpa using x⟩)
   ·clear u ad ab N E s b c I;rintro⟨ck,P,w⟩ ⟨rfl,p,v,rfl,A,b,c,x⟩;simp only[dA,cN,aW,bs,a1U];obtain⟨F,G,Q,K,z,C,M⟩:=hP A.cd 3 (by omega) (by omega);obtain⟨X,b7,ai⟩:=qJ qF F C M;have q:=(z.2 (h.length+1) (by omega)).trans c;replace b:=(z.2 h.length (by omega)).trans b;have u:=A.next K z;have ad:=x.same z (by omega);refine Wp.step Q ?_;simp only[tp,C,aN,eE,ai,hU,bs,gW,GQ q rfl,GQ c rfl,Sf,iN];refine l5 b (by rfl) (by rfl) (by simp) (by rfl) λr S a=>?_
    replace S:r[h.length]?=some (.row aH 11 [[.str X,.int .i64 l,.int .i64 k,.int .i64 fr,.int .i64 j,g,.int .i64 0,.int .i64 0,.str [],.str [],.aA]]):=S;have s:St h o r:=u.app (mH a.1.symm) λf m=>a.2 f (by omega)
    have I:=ad.cL (h':=r) λf m _=>a.2 f (by omega)
    simp only[nP S rfl,bs,cP];have ba:=gS (n0:=h.length) (n:=2) I (by omega) (λp _=>nQ _ r _ p);have b8:=a1T X b7;obtain⟨h',a9,a7,bb⟩:=s.scope (d :=.agg [.str X,.int .i64 l,.int .i64 k,.int .i64 fr,.int .i64 j,g,.int .i64 0,.int .i64 0,.str [],.str [],.aA]) (d' :=.agg (aT ⟨X,⟨l,k,fr,j,e.map blank,cS h.length r 3 g,0,0,[],[],[],.aA,aI.aA _ _,by simp,ba,by simp;omega⟩⟩)) (by simp[-a7N,aT,bG]) (pK _ _);rw[a9];refine .some ⟨_,rfl,a7,bb,⟨rfl,rfl,rfl,Cw _ _ _ ac,by simpa using b3,by simpa using b4,λt=>absurd t b8,λt=>absurd t b8,λ_=>⟨b7,rfl,rfl,rfl,rfl,rfl,?_⟩⟩⟩;intro L H;simp at H;obtain⟨di,_,rfl⟩:=H;rfl
  ·intro _;clear ab C M;obtain⟨ae,cl,bt,bn,ce,c1,c2⟩:=Tc N;refine Wp.step bt ?_;simp only[bs];obtain⟨af,aw,bu,bo,cf,c3,bh,bi⟩:=Ti bn;refine Wp.step bu ?_;have an:=ce.trans cf;replace c:=(an.2 (h.length+1) (by omega)).trans c;replace b:=(an.2 h.length (by omega)).trans b;have av:=s.next bo an;have az:=I.same an (by omega);clear bt bu u s bn ce N E cf an ad I bo;simp only[bs,xT,xU,xV,xW,oM,eS];refine lJ c (by rfl) (by rfl) (by simp) (by rfl) λc6 q a=>?_
   refine lJ q (by rfl) (by rfl) (by simp[-a7N,dZ,cX]) (by rfl) λa6 al ap=>?_
   replace a:=a.trans ap;replace c:a6[h.length+1]?=some (.row aC 10 [[.int .i64 l,.int .i64 k,.int .i64 fr,.int .i64 j,g,.int .i64 ae,.int .i64 af,.str [],.str [],.aA]]):=al;replace b:=(a.2 h.length (by omega)).trans b;have a1:St h o a6:=av.app (mH a.1.symm) λf m=>a.2 f (by omega)
   have cb:=az.cL (h':=a6) λf m _=>a.2 f (by omega)
   clear q al a ap av az;simp only[a1V,bs];obtain⟨F,c7,bv,bp,cg,C,M⟩:=hP a1.cd 4 (by omega) (by omega);obtain⟨au,cw,ai⟩:=qJ vY F C M;refine Wp.step bv ?_;simp only[tp,C,aN,eE,ai,hU,bs,gW,a1W];obtain⟨F,c8,bw,bq,ch,C,M⟩:=hP bp 2 (by omega) (by omega);obtain⟨aq,bb,ai⟩:=qJ vZ F C M;refine Wp.step bw ?_;simp only[tp,C,aN,eE,ai,hU,bs,gW,iN];have ao:=cg.trans ch;replace c:=(ao.2 (h.length+1) (by omega)).trans c;replace b:=(ao.2 h.length (by omega)).trans b;have bl:=a1.next bq ao;have cc:=cb.same ao (by omega);clear bv bw a1 bp cg ch ao cb bq;refine pZ c (by rfl) (by rfl) (by simp) (by rfl) λc9 q a=>?_
   refine pZ q (by rfl) (by rfl) (by simp[-a7N,dZ,cX]) (by rfl) λa4 al ap=>?_
   replace a:=a.trans ap;replace c:a4[h.length+1]?=some (.row aC 10 [[.int .i64 l,.int .i64 k,.int .i64 fr,.int .i64 j,g,.int .i64 ae,.int .i64 af,.str au,.str aq,.aA]]):=al;replace b:=(a.2 h.length (by omega)).trans b;have a0:St h o a4:=bl.app (mH a.1.symm) λf m=>a.2 f (by omega)
   have b9:=cc.cL (h':=a4) λf m _=>a.2 f (by omega)
   clear q al a ap bl cc;obtain⟨ag,c5,br,bm,am,bx,bc,b1⟩:=Tj a0.cd;refine Wp.step br ?_;replace c:=(am.2 (h.length+1) (by omega)).trans c;replace b:=(am.2 h.length (by omega)).trans b;have bk:=a0.next bm am;have ca:=b9.same am (by omega);have bd:=fT (fx bc);refine wD c (by rfl) (by rw[bd.1];rfl) (by simp) bd.2 λa5 q a=>?_
   rw[bd.1]at q;replace c:a5[h.length+1]?=some (.row aC 10 [[.int .i64 l,.int .i64 k,.int .i64 fr,.int .i64 j,g,.int .i64 ae,.int .i64 af,.str au,.str aq,ag]]):=q;replace b:=(a.2 h.length (by omega)).trans b;have ci:St h o a5:=bk.app (mH a.1.symm) λf m=>a.2 f (by omega)
   have c0:=ca.cL (h':=a5) λf m _=>a.2 f (by omega)
   clear br bk ca a0 b9 am bm a q;simp only[GQ c rfl,bs,Sg];refine l5 b (by rfl) (by rfl) (by simp) (by rfl) λr S a=>?_
   replace S:r[h.length]?=some (.row aH 11 [[.str [],.int .i64 l,.int .i64 k,.int .i64 fr,.int .i64 j,g,.int .i64 ae,.int .i64 af,.str au,.str aq,ag]]):=S;have s:St h o r:=ci.app (mH a.1.symm) λf m=>a.2 f (by omega)
   have I:=c0.cL (h':=r) λf m _=>a.2 f (by omega)
   simp only[nP S rfl,bs,cP];have ba:=gS (n0:=h.length) (n:=2) I (by omega) (λp _=>nQ _ r _ p);have dd:bx.length≤4:=by
    have:=b1.1.length_le;simpa using this
   have cn:cS h.length r 3 ag=ag:=iJ bc (λp _=>pt _ r _ p);obtain⟨h',a9,a7,cu⟩:=s.scope (d :=.agg [.str [],.int .i64 l,.int .i64 k,.int .i64 fr,.int .i64 j,g,.int .i64 ae,.int .i64 af,.str au,.str aq,ag]) (d' :=.agg (aT ⟨[],⟨l,k,fr,j,e,cS h.length r 3 g,ae,af,au,aq,bx,ag,bc,by omega,ba,by omega⟩⟩)) (by simp[-a7N,aT,bG,cn]) (pK _ _);rw[a9];exact .some ⟨_,rfl,a7,cu,⟨rfl,rfl,rfl,ac,b3,b4,λ_=>⟨c1,c2,c3,bh,cw,bb,b1,ax⟩,λ_=>bi,λt=>absurd rfl t⟩⟩
def ie(a b:Ev):Bool:=if a.a5=b.a5 then(if a.a0=b.a0 then(if a.a1=b.a1 then decide (a.a2<b.a2)else decide (a.a1<b.a1))else decide (a.a0<b.a0))else decide (a.a5<b.a5)
theorem QT(a b:Ev)(h:J):R DR [.agg (bG a),.agg (bG b)] h=some (.bool (ie a b),h):=by
 rw[VV];by_cases c:a.a5=b.a5
 ·by_cases d:a.a0=b.a0
  ·by_cases e:a.a1=b.a1
   ·simp[-a7N,uy,bG,ie,c,d,e]
   ·simp[-a7N,uy,bG,ie,c,d,e]
  ·simp[-a7N,uy,bG,ie,c,d]
 ·simp[-a7N,uy,bG,ie,c]
def jZ(l:List Ev)(e:Ev):Nat→Nat
 |0=>0
 | k+1=>match l[k]? with
  |some x=>if ie e x=true then jZ l e k else k+1
  |none=>k+1
def iW(l:List Ev)(e:Ev):List Ev:=l.take (jZ l e l.length)++[e]++l.drop (jZ l e l.length)
theorem yZ(l:List Ev)(e:Ev):∀k,jZ l e k≤k
 |0=>bB _
 | k+1=>by
  unfold jZ;cases l[k]? with
  |none=>simp[-a7N]
  | some x =>
   by_cases h:ie e x=true
   ·simp[-a7N,h];have:=yZ l e k;omega
   ·simp[-a7N,h]
theorem l72(l:List Ev)(d:D)(e:Ev)(h:J)(f:aI 10 bG l d)(o:l.length≤1000000000):∀k,k≤l.length→∀a,∃b,cA (so d (.aE (bG e))) [.int .i64 k,a] h=some (.ext 0,[.int .i64 (jZ l e k:Nat),b],h):=by
 intro k
 induction k with
 | zero =>
  intro _ a;rw[iX];exact⟨_,by simp[-a7N,so,jZ];rfl⟩
 | succ k c =>
  intro n a;have g:l[k]?=some l[k]:=dG (by omega);have i:(0:Int)<(k:Int)+1:=by omega
  have m:IntKind.wrap .i64 (k:Int)=k:=bJ (by omega) (by omega);rw[iX];by_cases j:ie e l[k]=true
  ·obtain⟨b,c⟩:=c (by omega) (.bool true);refine⟨b,?_⟩;simp[-a7N,so,jZ,g,j,i,m,kJ,vJ f,QT];simpa[-a7N,so]using c
  ·exact⟨_,by simp[-a7N,so,jZ,g,j,i,m,kJ,vJ f,QT];rfl⟩
theorem s72(l:List Ev)(d:D)(e:Ev)(h:J)(a:aI 10 bG l d)(z:l.length≤1000000000):∃d',R yH [d,.agg (bG e)] h=some (d',h)∧aI 10 bG (iW l e) d':=by
 suffices Wp (R yH [d,.agg (bG e)] h) (λs=>s.2=h∧aI 10 bG (iW l e) s.1) by
  obtain⟨⟨G,I⟩,g,rfl,m⟩:=this;exact⟨G,g,m⟩
 rw[VR];obtain⟨H,A⟩:=l72 l d e h a z l.length (bB _) .any;have K:=yZ l e l.length;simp only[K5,gq,bs,aL,vU a,A,dA,cN,aW];obtain⟨aa,B,p⟩:=HV (T:=tab) (t:=dX) (i:=wy) (j:=wx) (id rfl) (id rfl) (id rfl) (id rfl) a (k :=.i64) (n:=(jZ l e l.length:Nat)) (by omega) (by omega);obtain⟨ab,C,q⟩:=tV (T:=tab) (t:=dX) (i:=wy) (j:=wx) (id rfl) (id rfl) (id rfl) (id rfl) a (k :=.i64) (n:=(jZ l e l.length:Nat)) (by omega) (by omega);rw[eQ]at p q;simp only[B,C,bs];refine ud (n0:=h.length) (bB _) (aR.aA _ _ _ _) (mB _ p) (by simp;omega) λP g E L u _ _=>?_
 have y:dL tab dX 1 [0] [.agg (bG e)]=some (.sl 10 true [bG e]):=by simp[-a7N,bG]
 simp only[bs,kJ,y];refine ud (by omega) E (hC _ _ _ _) (by simp;omega) λQ m F M v _ _=>?_
 dsimp only;refine ud (by omega) F (mB _ q) (by simp;omega) λX x r N w _ _=>?_
 simp only[bs,cP];rw[kp,show[bG e]=[e].map bG from rfl,← gL,← gL]at r;have o:=gS (n0:=h.length) (n:=3) r (bB _) (λb _=>uW _ x 2 b);rw[ff rfl (e7 o λb _=>sW _ b) (by omega) (λf c=>((w f c).trans (v f c)).trans (u f c))];exact .some ⟨rfl,o⟩
def items(d c:Int):Int→List It→Int→Prop
 |a,[],b=>a=b
 |a,i::r,b=>ob d c a i∧items d c i.e.a3 r b
theorem OD(d c:Int):∀(l:List It) (a b:Int) (i:It),items d c a l b→ob d c b i→items d c a (l++[i]) i.e.a3
 | [],a,b,i,h,hi=>by
  simp only[items]at h;subst h;exact⟨hi,rfl⟩
 |x::r,a,b,i,h,hi=>⟨h.1,OD d c r _ b i h.2 hi⟩
def mE(c d:Int)(P:List It→D→Prop)(f:List (List It × D)):Prop:=∀(b:Nat) a,f[b]?=some a→P a.1 a.2∧a.1.length≤d∧∃e,items c (5+b) 0 a.1 e
theorem mE.mono{e g:Int}{P c:List It→D→Prop}{j:List (List It × D)}(h:mE e g P j)(k:∀a b,P a b→c a b):mE e g c j:=λd i f=>⟨k _ _ (h d i f).1,(h d i f).2⟩
theorem l71{o N:Nat}(m aq f:Int)(n0:Nat)(ao:o<n0)(ag:n0≤N)(C:List D)(M:Z 1 C = .int .i64 f)(aj:0≤f)(ak:f≤1000){G:Type}{A:bK→Option G}{Q:G→Prop}(g:J)(n:Nat)(E:n≤1000)(a b:D)(L:CD g o)(ah:N≤g.length)
  (k:∀g' d h x a b c,aR g' N aH 11 (d.map aT) x→CD g' o→lL N o g g'→items m (5+f) 0 d h→d.length=n→Wp (A (.ext 2,[x,.int .i64 h,a,b,c],g')) Q) :
  Wp ((cA (BD (.ptr o 0 0) (.int .i64 m) C) [.aA,.int .i64 0,.int .i64 n,a,b] g).bind A) Q:=by
 refine Wp.loop (λk v g'=>∃x h a b,∃d:List It,v=[x,.int .i64 h,.int .i64 k,a,b]∧aR g' N aH 11 (d.map aT) x∧CD g' o∧lL N o g g'∧items m (5+f) 0 d h∧0≤h∧h≤108*d.length∧d.length+k=n)
  (λp=>p.1 = .ext 2∧∃x h a b c,∃d:List It,p.2.1=[x,.int .i64 h,a,b,c]∧aR p.2.2 N aH 11 (d.map aT) x∧CD p.2.2 o∧lL N o g p.2.2∧items m (5+f) 0 d h∧d.length=n)
  n ⟨.aA,0,a,b,[],rfl,aR.aA _ _ _ _,L,.refl _ _ _,rfl,by omega,by simp,by simp⟩ ?_ ?_
 ·rintro k v g' ⟨x,h,a,b,d,rfl,u,q,l,s,R,ap,al⟩;simp only[BD,aW,bL,bs,dE,M,cO,bJ (n:=5+f) (by omega) (by omega)];refine Wp.dF ?_ ?_
  ·intro j;have j:0<(k:Int):=by simpa using j
   obtain⟨t,af,I,H,z,r⟩:=Tg q m (5+f) h R (by omega);have ai:=qg _ _ _ r.ch;have an:=r.n3;have am:=r.n1;have aa:=u.same z (by omega);refine Wp.step I ?_;simp only[mL,bs,kL,Md];refine Ar (by have:=l.1;have:=z.1;omega) aa (hC _ _ _ _) (by simp;omega) λad K ab X B _ _=>?_
   have i:=toIt t K;cases w:aB tab aH 1 (.aE (aT t))with
   |none=>rw[w]at i;cases i
   | some ac =>
    rw[w]at i;simp only[bs]at i;cases y:aB tab aC 3 ac with
    |none=>rw[y]at i;cases i
    | some F =>
     rw[y]at i;simp only[bs]at i;have P:IntKind.wrap .i64 ((k:Int) - 1)=((k - 1:Nat):Int):=by
      rw[bJ (by omega) (by omega)];omega
     simp only[bs,w,y,i,eB,P];refine .some (.inl ⟨rfl,k - 1,by omega,ad,t.e.a3,_,_,d++[t],rfl,by rw[gL];exact ab,H.cL (B o (by omega)),(l.trans z.grow).trans ⟨X,λF T _=>B F T⟩,OD _ _ _ _ _ _ s r,by omega,by simp;omega,by simp;omega⟩)
  ·intro j;have j:¬0<(k:Int):=by simpa using j
   exact .some (.inr ⟨by simp,rfl,x,h,_,_,_,d,rfl,u,q,l,s,by omega⟩)
 ·rintro⟨ae,v,g'⟩ ⟨rfl,x,h,a,b,c,d,rfl,u,q,l,s,E⟩;exact k g' d h x a b c u q l s E
theorem Tf{h:J}{o:Nat}(ab:CD h o)(i d:Int)(br:0≤d)(bt:d≤100):∃x h',R yG [.ptr o 0 0,.int .i64 i,.int .i64 d] h=some (x,h')∧CD h' o∧bM o h h'∧∃a:List (List It × D),aI 1 (λp=>[p.2]) a x∧a.length≤3∧1≤a.length∧mE i d (aI 11 aT) a:=by
 suffices Wp (R yG [.ptr o 0 0,.int .i64 i,.int .i64 d] h) (λp=>CD p.2 o∧bM o h p.2∧∃a:List (List It × D),aI 1 (λp=>[p.2]) a p.1∧a.length≤3∧1≤a.length∧mE i d (aI 11 aT) a) by
  obtain⟨⟨x,h'⟩,aw,ax⟩:=this;exact⟨x,h',aw,ax⟩
 have t:=ab.lt;rw[VQ];simp only[K3,bs,aL];refine Wp.loop (λK I m=>∃x l u v b w y,∃g:Nat,∃a:List (List It × D),I=[x,.int .i64 g,l,u,v,b,w,y]∧St h o m∧aR m h.length dO 1 (a.map λp=>[p.2]) x∧a.length=g∧K+g=3∧mE i d (λf b=>aR m h.length aH 11 (f.map aT) b) a)
  (λC=>C.1 = .ext 0∧∃x l u v b w y h',∃a:List (List It × D),C.2.1=[x,l,u,v,b,w,y,h']∧St h o C.2.2∧aR C.2.2 h.length dO 1 (a.map λp=>[p.2]) x∧a.length≤3∧1≤a.length∧mE i d (λf b=>aR C.2.2 h.length aH 11 (f.map aT) b) a)
  3 ⟨.aA,.any,.any,.any,.any,.any,.any,0,[],rfl,.refl ab,aR.aA _ _ _ _,rfl,rfl,λg p c=>by simp at c⟩ ?_ ?_
 ·rintro K I m ⟨x,l,u,v,b,w,y,g,a,rfl,E,L,bu,bp,G⟩;simp only[K4,aW,bL,bs,aL];obtain⟨an,au,aq,X,M,bx,bz⟩:=hP E.cd 3 (by omega) (by omega);have S:=E.next X M;have aj:=L.same M t;have af:mE i d (λf b=>aR au h.length aH 11 (f.map aT) b) a:=G.mono λ_ _ k=>k.same M t
  refine Wp.step aq ?_;simp only[iw,bs];refine Wp.dF ?_ ?_
  ·intro A;have A:(g:Int)≤an:=by simpa using A
   simp only[cO,bs,bJ (n:=d+1) (by omega) (by omega)];obtain⟨n,z,ar,aa,P,bg,bv⟩:=hP X (d+1) (by omega) (by omega);have F:=S.next aa P;have ak:=aj.same P t;have a8:mE i d (λf b=>aR z h.length aH 11 (f.map aT) b) a:=af.mono λ_ _ k=>k.same P t
   refine Wp.step ar ?_;simp only[bs];rw[← BI bg];refine l71 (N:=z.length) i d g h.length t F.le _ (by rfl) (by omega) (by omega) z n.toNat (by omega) _ _ aa (bB _) ?_;intro r ah bj Q bl bm bn am ap gr a1 bq;have H:∀e,e<z.length→e≠o→r[e]?=z[e]?:=gr.2;have T:St h o r:=⟨t,ap,F.gr.trans ⟨gr.1,λe q a4=>H e (by have:=F.le;omega) a4⟩⟩
   have al:aR r h.length dO 1 (a.map λp=>[p.2]) x:=ak.cL λe q s=>H e (ak.lt s).2 (by omega)
   have ag:mE i d (λf b=>aR r h.length aH 11 (f.map aT) b) a:=a8.mono λ_ _ k=>k.cL λe q s=>H e (k.lt s).2 (by omega)
   have bi:aR r h.length aH 11 (ah.map aT) Q:=am.from F.le;simp only[dA,cN,aW,bL,bs,Sv Q (jj am)];have bc:=eR g (by omega);refine a6M T.le al (hC _ _ _ _) (by simp;omega) λbk av bh bf ao be _=>?_
   simp only[bs,bc];have ai:∀(f:List It) (b:D),aR r h.length aH 11 (f.map aT) b→aR av h.length aH 11 (f.map aT) b:=λf b k=>k.cL λe q s=>be e (k.lt s).2 (PU k al (by decide) s)
   refine .some (.inl ⟨rfl,K - 1,by omega,bk,_,_,_,_,_,_,g+1,a++[(ah,Q)],rfl,T.app bf ao,by rw[gL];exact bh,by simp;omega,by omega,λj p c=>?_⟩);rcases gG j a.length with B|B
   ·rw[fg B]at c;exact⟨ai _ _ (ag j p c).1,(ag j p c).2⟩
   ·rw[gO B]at c;have a2:j - a.length=0:=by
     have:=(bR.1 c).1;simpa using this
    rw[a2]at c;simp at c;subst c;have a3:j=g:=by omega
    subst a3;exact⟨ai _ _ bi,by simp only;omega,bj,a1⟩
  ·intro A;have A:¬(g:Int)≤an:=by simpa using A
   exact .some (.inr ⟨by simp,rfl,x,_,_,_,_,_,_,_,a,rfl,S,aj,by omega,by omega,af⟩)
 ·rintro⟨bo,I,m⟩ ⟨rfl,x,l,u,v,b,w,y,h',a,rfl,E,L,a6,a7,G⟩;simp only[dA,cN,aW,bs,cP];have ad:aI 1 (λp:List It × D=>[p.2]) (a.map λp=>(p.1,cS h.length m 3 p.2)) (cS h.length m 4 x):=by
   rcases L with⟨rfl,a9⟩|⟨bw,a5,rfl,a0⟩
   ·have:a=[]:=by simpa using a9
    subst this;exact .inl ⟨rfl,rfl⟩
   ·right;refine⟨false,?_⟩;rw[yR a5 a0];simp[-a7N];rw[hN (by simp)];rfl
  have ae:mE i d (aI 11 aT) (a.map λp=>(p.1,cS h.length m 3 p.2)):=by
   intro j p c;rw[eE]at c;cases q:a[j]? with
   |none=>rw[q]at c;cases c
   | some e =>
    rw[q]at c;simp at c;subst c;exact⟨gS (G j e q).1 (bB _) λl _=>y3 _ _ _ l,(G j e q).2⟩
  obtain⟨h',ba,az,bb⟩:=E.scope rfl (e7 ad λl ay b ac=>by
   simp at ac;subst ac;obtain⟨j,B⟩:=j7 ay;exact e7 (ae j l B).1 λbd _=>GG _ bd)
  exact⟨_,ba,az,bb,_,ad,by simpa using a6,by simpa using a7,ae⟩
theorem s99(n:Int)(h:J):R yN [.int .i64 n] h=some (.bool false,h):=by
 rw[V5];simp[-a7N,Lr]
def hA(a b:Int):Int:=if a<b then -1 else if b<a then 1 else 0
theorem HM(a b:Int)(h:J):R pz [.int .i64 a,.int .i64 b] h=some (.int .i64 (hA a b),h):=by
 rw[CX];simp[-a7N,Lg,s99,hA];by_cases c:a<b
 ·simp[-a7N,c]
 ·by_cases d:b<a<;>simp[-a7N,c,d]
def mo(c:Int):Bool:=(decide (97≤c)&&decide (c≤122))||(decide (65≤c)&&decide (c≤90))
def sT(c:Int):Bool:=decide (48≤c)&&decide (c≤57)
def pY(c:Int):Bool:=(sT c||mo c)||decide (c=95)
theorem zQ(c:Int)(h:J):R x8 [.int .u8 c] h=some (.bool (mo c),h):=by
 rw[Uk];simp[-a7N,I1,mo];by_cases a:97≤c<;>by_cases b:c≤122<;>by_cases d:65≤c<;>by_cases e:c≤90<;>simp[-a7N,a,b,d,e]
theorem a3l(c:Int)(h:J):R Dg [.int .u8 c] h=some (.bool (sT c),h):=by
 rw[Un];simp[-a7N,I4,sT];by_cases a:48≤c<;>by_cases b:c≤57<;>simp[-a7N,a,b]
theorem HA(c:Int)(h:J):R Df [.int .u8 c] h=some (.bool (pY c),h):=by
 rw[Um];cases a:sT c<;>cases b:mo c<;>simp[-a7N,I3,a3l,zQ,pY,a,b]
def lG(c:UInt8):Bool:=pY c.toNat||decide ((c.toNat:Int)=46)
def ic(s:aD):Bool:=match s with
 |[]=>false
 |c::a=>decide ((c::a).length≤32)&&(mo c.toNat||decide ((c.toNat:Int)=95))&&(c::a).all lG
theorem HU(s:aD)(i:Nat)(c:UInt8)(a:s[i]?=some c):mR tab bH (.str s) (.int .i64 i)=some (.int .u8 c.toNat):=by
 show(if(0:Int)≤(i:Int)then(match s[(i:Int).toNat]? with|some c=>some (D.int .u8 c.toNat)|none=>none)else none)=_;simp[-a7N,a]
theorem a0F(s:aD)(h:J)(x:s.length≤9223372036854775807){q:Type}(g:bK→Option q)(X:Bool→Option q)
   (u:∀r,g (.ret,.bool false::r,h)=X false) (v:∀r,g (.ext 0,r,h)=X true):∀(f c:aD),s=c++f→∀a b e,
   (cA (sg (.str s)) [a,.int .i64 c.length,b,e] h).bind g=X (f.all lG):=by
 intro f
 induction f with
 | nil =>
  rintro c rfl a b e;rw[iX];simp[-a7N,sg,v]
 | cons d f p =>
  rintro c rfl a b e;have o:IntKind.wrap .i64 ((c.length:Int)+1)=(c++[d]).length:=by
   rw[bJ (by omega) (by simp at x;omega)];simp[-a7N]
  have l:(c.length:Int)<(c++d::f).length:=by simp;omega
  rw[iX];generalize j:c++d::f=n at *;have w:n[c.length]?=some d:=by rw[← j];exact vB _ _ _
  have k:=HU n c.length d w;cases m:pY d.toNat
  ·by_cases i:(d.toNat:Int)=46
   ·have:=p (c++[d]) (by simp[-a7N,← j]) a (.bool true) (.bool (decide ((d.toNat:Int)≠46)));simp only[← o]at this;have t:pY 46=false:=rfl;simp[-a7N,sg,l,k,HA,m,lG,i,t];simp[-a7N,i]at this;exact this
   ·simp[-a7N,sg,l,k,HA,m,lG,i,u]
  ·have:=p (c++[d]) (by simp[-a7N,← j]) a (.bool true) (.bool false);simp only[← o]at this;simp[-a7N,sg,l,k,HA,m,lG];exact this
theorem QB(s:aD)(h:J)(m:s.length≤9223372036854775807):R De [.str s] h=some (.bool (ic s),h):=by
 rw[Uj];cases s with
 |nil=>simp[-a7N,sf,ic]
 | cons a c =>
  have g:mR tab bH (.str (a::c)) (.int .i64 0)=some (.int .u8 a.toNat):=HU (a::c) 0 a rfl;have e:¬((a::c).length:Int)<1:=by simp;omega
  have i:=a0F (a::c) h m (λb=>(some (bX 0 b.1,[Z 0 b.2.1,Z 1 b.2.1,Z 2 b.2.1,Z 3 b.2.1],b.2.2)).bind λb=>cI b.1 (some (.bool true,b.2.2)) λn=>dC n (some (Z 0 b.2.1,b.2.2))) (λl=>some (.bool l,h)) (λc=>by simp) (λc=>by simp) (a::c) [] rfl;simp only[bs]at i;by_cases f:(32:Int)<((a::c).length:Int)
  ·have d:¬(a::c).length≤32:=by omega
   simp only[sf,bs,gn,bS,dE,bZ,bW,f,e,cM,bT,gk,aK,cP,aN,aJ,aU,reduceCtorEq,ic,d,l7,fq,bs]
  ·have d:(a::c).length≤32:=by omega
   cases j:mo a.toNat
   ·by_cases k:(a.toNat:Int)=95
    ·simp only[sf,bs,gn,bS,dE,bZ,bW,f,e,cM,bT,gk,aK,cP,aN,aJ,aU,reduceCtorEq,ic,d,l7,g,zQ,j,show mo 95=false from rfl,gB,gb,dH,k,dU,eF,aL];refine(i _ _ _).trans ?_;simp[-a7N,lG]
    ·simp only[sf,bs,gn,bS,dE,bZ,bW,f,e,cM,bT,gk,aK,cP,aN,aJ,aU,reduceCtorEq,ic,d,l7,g,zQ,j,gB,gb,dH,k,dU,eF,fw,Bool.or_false,qZ]
   ·simp only[sf,bs,gn,bS,dE,bZ,bW,f,e,cM,bT,gk,aK,cP,aN,aJ,aU,reduceCtorEq,ic,d,l7,g,zQ,j,gB,fy,fq,aL];refine(i _ _ _).trans ?_;simp[-a7N,lG]
def Ay(l:List (aD × aD)):Prop:=∀c a b,l[c]?=some a→l[c+1]?=some b→Op.bytesLess a.1 b.1=true∧a.1≠b.1
theorem HT(t:Nat)(s u:aD):O tab .gtr t (.str s) (.str u)=some (.bool (!(Op.bytesLess s u||s==u))):=id rfl
theorem rB(p:aD × aD):(aB tab bE 0 (.aE (aM p)))=some (.aE (aM p)):=id rfl
theorem rC(p:aD × aD)(h:J):Y tab h bH (.aE (aM p))=some (.str p.1):=id rfl
theorem a0C(l:List (aD × aD))(d:D)(h:J)(q:aI 2 aM l d)(F:l.length≤32)(B:∀p∈l,ic p.1=true∧p.1.length≤1000){t:Type}{m:bK→Option t}{Q:t→Prop}(a b:D)
  (u:∀x y z w v,Wp (m (.ext 0,[x,y,z,w,v],h)) Q):Wp ((cA (um d) [a,b,.int .i64 0,.any,.any] h).bind m) Q:=by
 refine Wp.loop (λk j g=>g=h∧∃a b e f,∃c:Nat,j=[a,b,.int .i64 c,e,f]∧k+c=l.length)
   (λx=>x.1 = .ext 0∧x.2.2=h∧∃a b e d f,x.2.1=[a,b,e,d,f]) l.length ⟨rfl,_,_,_,_,0,rfl,rfl⟩ ?_ ?_
 ·rintro k j g ⟨rfl,a,b,e,f,c,rfl,E⟩;simp only[um,aW,bL,bs,aL,hZ q,bS];refine Wp.dF ?_ ?_
  ·intro i;have i:c<l.length:=fe i;have r:l[c]?=some l[c]:=dG i;have s:=B l[c] (uB _);have C:=eR c (by omega);generalize l[c]=x at r s;simp only[k7 q,jJ,aN,eQ,r,hU,bs,rB x,rC,QB x.1 g (by omega),s.1,gB,fy,aK,aU,aJ,cO,C];exact .some (.inl ⟨rfl,k - 1,by omega,rfl,_,_,_,_,c+1,rfl,by omega⟩)
  ·intro i;exact .some (.inr ⟨by simp,rfl,rfl,_,_,_,_,_,rfl⟩)
 ·rintro⟨x,j,g⟩ ⟨n,A,a,b,e,d,f,o⟩;subst A;simp only at n o;subst n;subst o;exact u _ _ _ _ _
theorem a3h(l:List (aD × aD))(d:D)(h:J)(e:aI 2 aM l d)(aq:l.length≤32)(ar:∀p∈l,ic p.1=true∧p.1.length≤1000)(X:Ay l):∃d',R s6 [d] h=some (.bD [d',.int .i64 0],h)∧aI 2 aM l d':=by
 suffices Wp (R s6 [d] h) (λp=>p.2=h∧∃d',p.1 = .bD [d',.int .i64 0]∧aI 2 aM l d') by
  obtain⟨⟨c,a2⟩,y,rfl,d',rfl,al⟩:=this;exact⟨d',y,al⟩
 rw[Na];have am:¬(32:Int)<(l.length:Int):=by omega
 simp only[wM,bs,aL,hZ e,dE,am,bT,aK,aU,aJ];refine a0C l d h e aq ar _ _ λc a f a0 az=>?_
 simp only[dA,cN,aW,bL,bs];clear f a0 az;refine Wp.loop (λA u k=>h.length≤k.length∧(∀b,b<h.length→k[b]?=h[b]?)∧∃j B c C E v T,∃i:Nat,u=[j,B,c,.int .i64 i,C,E,v,T]∧A+i=l.length∧aR k h.length bE 2 ((l.take i).map aM) c)
   (λc=>c.1 = .ext 2∧h.length≤c.2.2.length∧(∀b,b<h.length→c.2.2[b]?=h[b]?)∧aR c.2.2 h.length bE 2 (l.map aM) (Z 2 c.2.1)) l.length ⟨bB _,λ_ _=>rfl,_,_,_,_,_,_,_,0,rfl,rfl,aR.aA _ _ _ _⟩ ?_ ?_
 ·rintro A u k ⟨s,t,j,B,c,C,E,v,T,i,rfl,a3,q⟩;simp only[AN,aW,bL,bs,aL,hZ e,bS];refine Wp.dF ?_ ?_
  ·intro m;have m:i<l.length:=fe m;have g:l[i]?=some l[i]:=dG m;have af:=eR i (by omega);have ae:l.take (i+1)=l.take i++[l[i]]:=by rw[g9,g];rfl
   have ay:((l.take i).map aM).length=i:=by simp;omega
   generalize l[i]=a at g ae;have ao:dL tab bQ 1 [0] [.agg (aM a)]=some (.sl 2 true [aM a]):=id rfl;simp only[GX q,ay,k7 e,jJ,aN,eQ,g,hU,bs,rD,ao];refine wA s q (hC _ _ _ _) (by simp;omega) λa7 w ah a5 ak _ _=>?_
   have aw:(l.take i).map aM++[aM a]=(l.take (i+1)).map aM:=by rw[ae];simp[-a7N]
   rw[aw]at ah;have z:((l.take (i+1)).map aM).length=i+1:=by simp;omega
   obtain⟨r,av,rfl,G⟩:=m5 ah (i:=i) (by omega);rw[z]at *;clear z;have z:((l.take (i+1)).map aM).length=i+1:=by simp;omega
   have M:((l.take (i+1)).map aM)[i]?=some (aM a):=by
    rw[eE,gw,bO (by omega),g];rfl
   have ag:(aM a)=[.str a.1,.str a.2]:=rfl;have a6:w.row r i=some (aM a):=by rw[dM G];exact M
   simp only[bs];rw[iX];have an:se d [j,B,c,.int .i64 i,C,E,v,T] (.aZ 2 r 0 (i+1)) [.int .i64 i,v] w=some (.ext 4,[.int .i64 i,.bool false],w):=by
    by_cases H:i=0
    ·subst H;simp[-a7N,se]
    ·have I:(0:Int)<i:=by omega
     have L:IntKind.wrap .i64 ((i:Int) - 1)=((i - 1:Nat):Int):=by
      rw[bJ (by omega) (by omega)];omega
     have o:l[i - 1]?=some (l[i - 1]'(by omega)):=dG (by omega);generalize l[i - 1]'(by omega)=f at o;have N:((l.take (i+1)).map aM)[i - 1]?=some (aM f):=by
      rw[eE,gw,bO (by omega),o];rfl
     have Q:w.row r (i - 1)=some (aM f):=by rw[dM G];exact N
     have K:((i - 1:Nat):Int)<((i+1:Nat):Int):=by omega
     have F:=(X (i - 1) f a o (by rw[show i - 1+1=i by omega];exact g)).1;simp only[se,aW,bL,bs,dE,I,cM,bZ,aN,eB,L,mm,jJ,qT,K,eQ,eS,rA,j1,Q,ag,aM,il,jT,k7 e,g,hU,NM,gW,HT,F,AA,fy,bW,aK,aU,aJ]
   rw[an];simp only[bs,dA,cN,aW,bL,k7 e,jJ,aN,eQ,g,hU,rD,mm,qT,show(i:Int)<((i+1:Nat):Int) by omega,eS];refine nY G M (by rfl) (by simp[-a7N,aM]) (by rfl) λx P aj=>?_
   have ax:((l.take (i+1)).map aM).set i (dZ (aM a) 0 (cX (.agg (aM a))))=(l.take (i+1)).map aM:=by
    rw[show dZ (aM a) 0 (cX (.agg (aM a)))=aM a from rfl];refine BN λa4=>?_
    rw[BQ];split
    ·rename_i ap;subst ap;rw[bO (by omega)];exact M.symm
    ·rfl
   rw[ax]at P;have ai:aR x h.length bE 2 ((l.take (i+1)).map aM) (.aZ 2 r 0 (i+1)) :=.inr ⟨r,av,by rw[z],P⟩;have aa:h.length≤x.length:=by have:=aj.1;omega
   have ab:∀b,b<h.length→x[b]?=h[b]?:=λb ac=>((aj.2 b (by omega)).trans (ak b ac)).trans (t b ac)
   by_cases H:i=0
   ·subst H;simp only[bs,dE,show ¬(0:Int)<((0:Nat):Int) by omega,bT,bZ,aU,aJ,bW,fq,aK,cO,af];exact .some (.inl ⟨rfl,A - 1,by omega,aa,ab,_,_,_,_,_,_,_,0+1,rfl,by omega,ai⟩)
   ·have I:(0:Int)<i:=by omega
    have L:IntKind.wrap .i64 ((i:Int) - 1)=((i - 1:Nat):Int):=by
     rw[bJ (by omega) (by omega)];omega
    have o:l[i - 1]?=some (l[i - 1]'(by omega)):=dG (by omega);generalize l[i - 1]'(by omega)=f at o;have N:((l.take (i+1)).map aM)[i - 1]?=some (aM f):=by
     rw[eE,gw,bO (by omega),o];rfl
    have Q:x.row r (i - 1)=some (aM f):=by rw[dM P];exact N
    have K:((i - 1:Nat):Int)<((i+1:Nat):Int):=by omega
    have F:=(X (i - 1) f a o (by rw[show i - 1+1=i by omega];exact g)).2;have au:(f.1==a.1)=false:=by simpa using F
    simp only[bs,dE,I,cM,bZ,aN,eB,L,mm,jJ,qT,K,eQ,eS,rA,j1,Q,ag,aM,il,jT,k7 e,g,hU,NM,gW,kc,au,bW,aK,aU,aJ,cO,af];exact .some (.inl ⟨rfl,A - 1,by omega,aa,ab,_,_,_,_,_,_,_,i+1,rfl,by omega,ai⟩)
  ·intro m;have m:i=l.length:=by
    have:¬(i:Int)<l.length:=by simpa using m
    omega
   subst m;rw[je]at q;exact .some (.inr ⟨by simp,rfl,s,t,q⟩)
 ·rintro⟨a1,u,k⟩ ⟨y,s,t,q⟩;simp only at y s t q;subst y;simp only[dA,cN,aW,bL,bs,gp];have ad:=gS (n0:=h.length) (n:=2) q (bB _) (λj _=>pt _ k _ j);rw[ff (d' :=.bD [cS h.length k 3 (Z 2 u),.int .i64 0]) (by simp) (by
   refine .bD _ λd e=>?_
   simp at e;rcases e with rfl|rfl
   ·exact e7 ad λj _=>u4 _ j
   ·constructor) s t]
  exact .some ⟨rfl,_,rfl,ad⟩
structure sD (e:Ev):Prop where
 h0:0≤e.a0
 h9:e.a0≤999
 f0:0≤e.a1
 f9:e.a1≤2147483646
 a0:0≤e.a2
 ab:e.a2<e.a3
 b9:e.a3≤60000
theorem Qw(e:Ev)(h:J)(j:sD e):R u5 [.agg (bG e)] h=some (.int .i64 0,h):=by
 obtain⟨k,l,m,n,o,p,q⟩:=j;have a:¬e.a0<0:=by omega
 have b:¬999<e.a0:=by omega
 have c:¬e.a1<0:=by omega
 have d:¬2147483646<e.a1:=by omega
 have f:¬e.a2<0:=by omega
 have g:¬e.a3≤e.a2:=by omega
 have i:¬60000<e.a3:=by omega
 rw[M7];simp only[AJ,gq,bs,bG,mT,mU,lA,iB,eU,bS,dE,iw,a,b,c,d,f,g,i,bT,bZ,aN,aJ,aU,bW,aK,cP]
theorem a3f(w:Int)(h:J)(b:1≤w)(h2:w≤5040)(c:Int.tmod 5040 w=0):R x6 [.int .i64 w] h=some (.bool true,h):=by
 have a:¬w=0:=by omega
 rw[M9];simp only[AM,bs,mO,iw,b,h2,cM,bZ,aN,bW,qk,a,aJ,c,e8,cP]
theorem Qy(e:Ev)(m:Int)(h:J)(ag:35≤m)(ah:m≤1000000)(L:sD e)(r:1≤e.ls.length)(ac:e.ls.length≤40)(K:chain e.a2 e.ls e.a3):R u6 [.agg (bG e),.int .i64 m] h=some (.int .i64 0,h):=by
 apply Wp.val;obtain⟨ai,aj,ak,al,N,am,an⟩:=L;have G:¬(e.ls.length:Int)=0:=by omega
 have H:¬(40:Int)<e.ls.length:=by omega
 rw[M8];simp only[AK,gq,bs,aL,bG,lU,lA,jh,eU,hX e.ft,e8,G,bT,aK,aU,aJ,dE,H];refine Wp.loop (λp q d=>d=h∧∃g k l n o,∃b:Int,∃a:Nat,q=[g,.int .i64 b,.int .i64 a,k,l,n,o]∧p+a=e.ls.length∧0≤b∧chain b (e.ls.drop a) e.a3)
   (λc=>c.1 = .ext 0∧c.2.2=h) e.ls.length ⟨rfl,_,_,_,_,_,_,0,rfl,rfl,N,K⟩ ?_ ?_
 ·rintro p q d ⟨rfl,g,k,l,n,o,b,a,rfl,ae,ad,s⟩;simp only[AL,aW,bL,bs,aL,lU,jh,hX e.ft,bS];refine Wp.dF ?_ ?_
  ·intro j;have j:a<e.ls.length:=fe j;have v:e.ls[a]?=some e.ls[a]:=dG j;have x:=eR a (by omega);rw[hS j]at s;generalize e.ls[a]=c at v s;obtain⟨Q,T,X,aa,i⟩:=s;have af:=qg _ _ _ i;have y:IntKind.wrap .i64 (b+c.len)=b+c.len:=bJ (by omega) (by omega);have z:IntKind.wrap .i64 (e.a3 - b)=e.a3 - b:=bJ (by omega) (by omega);have A:IntKind.wrap .i64 ((e.ls.length:Int) - 1)=(e.ls.length:Int) - 1:=bJ (by omega) (by omega);have C:¬c.off≠b:=by omega
   have D:¬c.len<1:=by omega
   have E:¬e.a3 - b<c.len:=by omega
   have F:¬m<(c.fj.length:Int):=by omega
   have I:gM 3 (.agg (cR c))=some (.aE (cR c)):=nB 3 _ rfl;simp only[m0 e.ft,jJ,aN,eQ,v,hU,bs,vW,I];have t:Wp (some (Ex.aQ,[g,.int .i64 (b+c.len),.int .i64 ((a+1:Nat):Int),.aE (cR c),.bool (decide ((a:Int)<e.ls.length)),.bool false,.bool false],d)) (λf:bK=>(f.1 = .aQ∧∃B,B<p∧f.2.2=d∧∃g k l n o,∃b:Int,∃a:Nat,f.2.1=[g,.int .i64 b,.int .i64 a,k,l,n,o]∧B+a=e.ls.length∧0≤b∧chain b (e.ls.drop a) e.a3)∨(f.1 ≠ .aQ∧f.1 = .ext 0∧f.2.2=d)):=
    .some (.inl ⟨rfl,p - 1,by omega,rfl,_,_,_,_,_,_,a+1,rfl,by omega,by omega,i⟩)
   by_cases w:(a:Int)=(e.ls.length:Int) - 1
   ·rw[kD (by omega)]at i;have i:b+c.len=e.a3:=i;have M:decide ((a:Int)=(e.ls.length:Int) - 1)=true:=by simpa using w
    have P:¬c.len≠e.a3 - b:=by omega
    simp only[cR,C3,NR,C4,eU,gW,gn,bs,dH,bS,dE,eB,C,D,bT,bZ,aN,bW,aU,aJ,iB,lU,jh,hX e.ft,z,A,E,e8,M,P,F,aK,cO,y,x];exact t
   ·simp only[cR,C3,NR,C4,eU,gW,gn,bs,dH,bS,dE,eB,C,D,bT,bZ,aN,bW,aU,aJ,iB,lU,jh,hX e.ft,z,A,E,e8,w,cM,fq,F,aK,cO,y,x];exact t
  ·intro j;exact .some (.inr ⟨by simp,rfl,rfl⟩)
 ·rintro⟨ab,q,d⟩ ⟨r,u⟩;simp only at r u;subst r;subst u;simp only[dA,cN,bs,cP];exact .some rfl
structure wJ (e:Ev):Prop where
 pl:sD e
 t0:0≤e.a5
 t9:e.a5≤253402300799999
 w1:1≤e.a6
 w2:e.a6≤5040
 w3:Int.tmod 5040 e.a6=0
 l1:1≤e.ls.length
 l4:e.ls.length≤40
 ch:chain e.a2 e.ls e.a3
 tr:e.s7.length≤32
 st:e.s8.length≤32
 f3:e.fs.length≤32
 fn:∀p∈e.fs,ic p.1=true∧p.1.length≤1000
 fa:Ay e.fs
 fv:∀p∈e.fs,p.2.length≤2000
theorem Y2(p:aD × aD):aB tab bE 1 (.aE (aM p))=some (.aE [.str p.2]):=id rfl
theorem a3d(e:Ev)(h:J)(a:wJ e):R x5 [.agg (bG e)] h=some (.int .i64 0,h):=by
 apply Wp.val;have w:¬e.a5<0:=by have:=a.t0;omega
 have x:¬253402300799999<e.a5:=by have:=a.t9;omega
 have y:¬(32:Int)<(e.s7.length:Int):=by have:=a.tr;omega
 have z:¬(32:Int)<(e.s8.length:Int):=by have:=a.st;omega
 obtain⟨r,t,i⟩:=a3h e.fs e.fd h e.gH a.f3 a.fn a.fa;have s:=HN e.fs e.fs r e.fd h i e.gH e.hl;have o:=Qy e 2000 h (by omega) (by omega) a.pl a.l1 a.l4 a.ch;simp only[bG]at o;rw[M6];simp only[AH,gq,bs,aL,kJ,Qw e h a.pl];simp only[bG,C2,NN,NO,NP,NQ,eU,gW,lW,gn,bs,dH,bS,dE,w,x,y,z,bT,dU,eF,bZ,aN,aJ,aU,bW,aK,a3f e.a6 h a.w1 a.w2 a.w3,o,gB,fy,t,fU,fC,fV,s,cM];refine Wp.loop (λj f g=>g=h∧∃k l m,∃b:Nat,f=[k,.int .i64 b,l,m]∧j+b=e.fs.length)
   (λd=>d.1 = .ext 0∧d.2.2=h) e.fs.length ⟨rfl,_,_,_,0,rfl,rfl⟩ ?_ ?_
 ·rintro j f g ⟨rfl,k,l,m,b,rfl,D⟩;simp only[wL,aW,bL,bs,aL,hZ i,bS];refine Wp.dF ?_ ?_
  ·intro c;have c:b<e.fs.length:=fe c;have q:e.fs[b]?=some e.fs[b]:=dG c;have u:=a.fv e.fs[b] (uB _);have C:=a.f3;have v:=eR b (by omega);generalize e.fs[b]=d at q u;have A:¬(2000:Int)<(d.2.length:Int):=by omega
   simp only[k7 i,jJ,aN,eQ,q,hU,bs,Y2,gW,gn,dE,A,bT,aK,aU,aJ,cO,v];exact .some (.inl ⟨rfl,j - 1,by omega,rfl,_,_,_,b+1,rfl,by omega⟩)
  ·intro c;exact .some (.inr ⟨by simp,rfl,rfl⟩)
 ·rintro⟨B,f,g⟩ ⟨n,p⟩;simp only at n p;subst n;subst p;simp only[dA,cN,bs,cP];exact .some rfl
structure Cc (i:It):Prop where
 r0:i.r≠[]
 r3:i.r.length≤32
 pl:sD i.e
 l1:1≤i.e.ls.length
 l4:i.e.ls.length≤40
 ch:chain i.e.a2 i.e.ls i.e.a3
 tm:i.e.a5=0
 w0:i.e.a6=0
 tr:i.e.s7=[]
 st:i.e.s8=[]
 fs:i.e.fs=[]
 tx:∀l∈i.e.ls,l.fj=[]
theorem Qt(i:It)(h:J)(hi:(i.r=[]∧wJ i.e)∨Cc i):R qu [.agg (aT i)] h=some (.int .i64 0,h):=by
 apply Wp.val;rw[M5];simp only[AE,gq,bs,aL,pG,pH,pJ,kJ,kc];rcases hi with⟨u,a⟩|a
 ·simp only[u,lr,aK,aN,a3d i.e h a,bs,cP];exact .some rfl
 ·have w:(i.r==[])=false:=by simpa using a.r0
  have x:¬(32:Int)<(i.r.length:Int):=by have:=a.r3;omega
  have s:gM 10 (.agg (bG i.e))=some (.aE (bG i.e)):=nB 10 _ rfl;have t:(i.e.fs.length:Int)=0:=by rw[a.fs];rfl
  simp only[w,aK,aU,aJ,gn,bs,dE,x,bT,s,kJ,Qw i.e h a.pl,Qy i.e 20000 h (by omega) (by omega) a.pl a.l1 a.l4 a.ch,dH,dU,eF,bZ,bW];simp only[bG,C2,NN,NO,NP,NQ,eU,gW,lW,gn,bs,dH,ly,a.tm,a.w0,a.tr,a.st,hZ i.e.gH,t,dU,eF,bT,bZ,aN,aJ,aU,bW,aK,lr,fy];refine Wp.loop (λg d f=>f=h∧∃k l m,∃b:Nat,d=[k,.int .i64 b,l,m]∧g+b=i.e.ls.length)
   (λj=>j.1 = .ext 0∧j.2.2=h) i.e.ls.length ⟨rfl,_,_,_,0,rfl,rfl⟩ ?_ ?_
  ·rintro g d f ⟨rfl,k,l,m,b,rfl,A⟩;simp only[wK,aW,bL,bs,aL,lU,jh,hX i.e.ft,bS];refine Wp.dF ?_ ?_
   ·intro c;have c:b<i.e.ls.length:=fe c;have p:i.e.ls[b]?=some i.e.ls[b]:=dG c;have q:=a.tx i.e.ls[b] (uB _);have z:=a.l4;have v:=eR b (by omega);generalize i.e.ls[b]=j at p q;simp only[m0 i.e.ft,jJ,aN,eQ,p,hU,bs,cR,C4,gW,q,ly,lr,fy,aK,aU,aJ,cO,v];exact .some (.inl ⟨rfl,g - 1,by omega,rfl,_,_,_,b+1,rfl,by omega⟩)
   ·intro c;exact .some (.inr ⟨by simp,rfl,rfl⟩)
  ·rintro⟨y,d,f⟩ ⟨n,o⟩;simp only at n o;subst n;subst o;simp only[dA,cN,bs,cP];exact .some rfl
theorem a0A(l:List eV)(d:D)(n:D)(j:eV→Bool)(h:J)(p:aI 3 cR l d)(A:l.length≤9223372036854775807)(q:∀x,hj R n [.agg (cR x)] h=some (.bool (j x),h)){u:Type}(k:bK→Option u)(X:Int→Option u)
   (y:∀v r,k (.ret,.int .i64 v::r,h)=X v) (z:∀r,k (.ext 0,r,h)=X (-1)):∀(i c:List eV),l=c++i→∀a b e f,
   (cA (uk d n (.int .i64 l.length)) [a,b,.int .i64 c.length,e,f] h).bind k=X (idx j c.length i):=by
 intro i
 induction i with
 | nil =>
  rintro c rfl a b e f;rw[iX];simp[-a7N,uk,z,idx]
 | cons g i C =>
  rintro c rfl a b e f;have B:IntKind.wrap .i64 ((c.length:Int)+1)=(c++[g]).length:=by
   rw[bJ (by omega) (by simp at A;omega)];simp[-a7N]
  have t:(c.length:Int)<(c++g::i).length:=by simp;omega
  rw[iX];generalize o:c++g::i=w at *;have s:w[c.length]?=some g:=by rw[← o];exact vB _ _ _
  by_cases m:j g=true
  ·simp[-a7N,uk,m0 p,t,s,vW,q,m,y,idx]
  ·have:=C (c++[g]) (by simp[-a7N,← o]) a (.int .i64 c.length) (.bool true) (.bool (j g));simp only[← B]at this;simp[-a7N,uk,m0 p,t,s,vW,q,m,idx];simp[-a7N,m]at this;exact this
theorem Qu(l:List eV)(d:D)(a:D)(b:eV→Bool)(h:J)(c:aI 3 cR l d)(g:l.length≤9223372036854775807)(f:∀x,hj R a [.agg (cR x)] h=some (.bool (b x),h)):
   R x4 [d,a] h=some (.int .i64 (idx b 0 l),h):=by
 rw[Uc];simp only[IV,bs,hX c,aL];rw[show(0:Int)=(([]:List eV).length:Int)from rfl,a0A l d a b h c g f _ (λe=>some (.int .i64 e,h)) (λe i=>by simp) (λi=>by simp) l [] rfl];rfl
theorem a3c(l:eV)(n:Int)(h:J):R Dc [.agg (cR l),.aE [.int .i64 n]] h=some (.bool (decide (l.off=n)),h):=by
 rw[Ud];simp[-a7N,IW,cR]
theorem uL{T:dR}{t e:Nat}{i j:TI}(k:T t=Option.some i)(hi:i.td = .sl e)(c:T e=Option.some j)(m:0<j.V){h:J}{ys:List (List D)}{y:D}(l:gA h j.V y=Option.some ys)(d:eY ys.length j.gf=true):
  ∃b h',dB T h t t (.sl j.V true []) y=Option.some (b,h')∧h.length≤h'.length∧(∀a,a<h.length→h'[a]?=h[a]?)∧((b = .sl j.V true []∧ys=[])∨aR h' h.length e j.V ys b):=by
 have n:Nat.blt 0 j.V=true:=jK m;have g:ix h i j y=Option.some ys:=by simp[-a7N,ix,hi,l]
 unfold dB;simp only[k,hi,c,n,g];cases ys with
 |nil=>exact⟨_,_,rfl,bB _,λ_ _=>rfl,.inl ⟨rfl,rfl⟩⟩
 | cons o p =>
  simp only[e6,eS,d,jq,aN,kp,qT];exact⟨_,_,rfl,by simp[-a7N,aG],λa f=>by simp only[aG];rw[fg f],.inr (.inr ⟨h.length,bB _,rfl,by simp[-a7N,aG]⟩)⟩
theorem Qv(l:List eV)(d:D)(h:J)(p:aI 3 cR l d)(u:l.length≤1000000):∃d',R s4 [d] h=some (d',h)∧aI 3 cR l d':=by
 rw[Ue];rcases p with⟨rfl,rfl⟩|⟨b,rfl⟩
 ·exact⟨.aA,by
    have e:O tab .eql bU .aA .aA=some (.bool true):=id rfl;simp[-a7N,AF,e,ff (vA _ _ _) .aA (bB _) (λ_ _=>rfl)],.aA _ _⟩
 ·obtain⟨k,c,m,q,s,f⟩:=uL (T:=tab) (t:=bU) (i:=tZ) (j:=r5) (h:=h) (id rfl) (id rfl) (id rfl) (by decide) (y :=.sl 3 b (l.map cR)) (hC _ _ _ _) (jD (by have:r5.gf=32:=rfl;rw[this,fN];omega) (by rw[fN];omega));have o:dB tab h bU bU (.sl 3 true []) (.sl 3 b (l.map cR))=some (k,c):=m;have e:O tab .eql bU (.sl 3 b (l.map cR)) .aA=some (.bool false):=id rfl;have g:aI 3 cR l (cS h.length c 4 k):=by
   rcases f with⟨rfl,r⟩|f
   ·have:l=[]:=by simpa using r
    subst this;exact .inr ⟨true,rfl⟩
   ·exact gS (n0:=h.length) (n:=3) f (bB _) (λa _=>nQ _ c _ a)
  refine⟨_,?_,g⟩;simp only[AF,bs,e,aK,aU,aJ,Sx,o,cP];exact ff rfl (e7 g λa _=>zj _ a) q s
structure n7 (i:It) (at_:Int) (k:Nat) (j:It):Prop where
 r:j.r=i.r
 a0:j.e.a0=i.e.a0
 a1:j.e.a1=i.e.a1
 a2:j.e.a2=at_
 a3:j.e.a3=i.e.a3
 a5:j.e.a5=i.e.a5
 a6:j.e.a6=i.e.a6
 s7:j.e.s7=i.e.s7
 s8:j.e.s8=i.e.s8
 ls:j.e.ls=i.e.ls.drop k
 fs:j.e.fs=i.e.fs
def k6:It:=⟨[],⟨0,0,0,0,[],.aA,0,0,[],[],[],.aA,aI.aA _ _,by simp,aI.aA _ _,by simp⟩⟩
theorem yY{α:Type}(a:α→Bool):∀(l:List α) (k:Nat),idx a k l<1∨((k:Int)≤idx a k l∧idx a k l<(k+l.length:Nat))
 |[],k =>.inl (by simp[-a7N,idx])
 | x::r,k=>by
  unfold idx;split
  ·exact .inr ⟨Int.le_refl _,by simp;omega⟩
  ·rcases yY a r (k+1)with h|⟨b,h2⟩
   ·exact .inl h
   ·exact .inr ⟨by omega,by simp at h2 ⊢;omega⟩
theorem a3a(i:It)(n:Int)(h:J)(bf:i.e.ls.length≤1000000):∃j,R x3 [.agg (aT i),.int .i64 n] h=some (.bD [.agg (aT j),.bool (decide (¬idx (λl=>decide (l.off=n)) 1 (i.e.ls.drop 1)<1))],h)∧(if idx (λl=>decide (l.off=n)) 1 (i.e.ls.drop 1)<1 then j=k6 else n7 i n (idx (λl=>decide (l.off=n)) 1 (i.e.ls.drop 1)).toNat j):=by
 generalize ar:idx (λl:eV=>decide (l.off=n)) 1 (i.e.ls.drop 1)=c
 suffices Wp (R x3 [.agg (aT i),.int .i64 n] h) (λai=>ai.2=h∧∃j,ai.1 = .bD [.agg (aT j),.bool (decide (¬c<1))]∧(if c<1 then j=k6 else n7 i n c.toNat j)) by
  obtain⟨⟨d,bc⟩,v,rfl,j,rfl,w⟩:=this;exact⟨j,v,w⟩
 rw[Ua];simp only[IP,bs,aL];rw[lj aH 11 h (aT i) rfl (by omega)];generalize H:aG h aH 11 [aT i]=C;have x:C.length=h.length+1:=by simp[-a7N,← H,aG]
 have G:∀a,a<h.length→C[a]?=h[a]?:=λa f=>by simp only[← H,aG];rw[fg f]
 have z:C[h.length]?=some (.row aH 11 [aT i]):=by simp[-a7N,← H,aG]
 clear H;simp only[bs,x];generalize I:aG C aH 11 [[.str [],.int .i64 0,.int .i64 0,.int .i64 0,.int .i64 0,.aA,.int .i64 0,.int .i64 0,.str [],.str [],.aA]]=u;have bd:u.length=h.length+2:=by simp[-a7N,← I,aG,x]
 have M:∀a,a<h.length+1→u[a]?=C[a]?:=λa f=>by simp only[← I,aG];rw[fg (by omega)]
 have A:u[h.length+1]?=some (.row aH 11 [[.str [],.int .i64 0,.int .i64 0,.int .i64 0,.int .i64 0,.aA,.int .i64 0,.int .i64 0,.str [],.str [],.aA]]):=by
  simp only[← I,aG];rw[← x,gO (bB _)];simp[-a7N]
 replace z:=(M h.length (by omega)).trans z;replace G:∀a,a<h.length→u[a]?=h[a]?:=λa f=>(M a (by omega)).trans (G a f)
 clear I M x;have a8:u.row h.length 0=some [.str i.r,.int .i64 i.e.a0,.int .i64 i.e.a1,.int .i64 i.e.a2,.int .i64 i.e.a3,i.e.ld,.int .i64 i.e.a5,.int .i64 i.e.a6,.str i.e.s7,.str i.e.s8,i.e.fd]:=dM z;simp only[lB,jY,bs,m2,a8,jS,il,jT,eS];refine Wp.loop (λk K p=>p=u∧∃y aa ac,∃b:Nat,K=[y,.int .i64 b,aa,ac]∧k+b=i.e.ls.length+1∧1≤b∧idx (λl:eV=>decide (l.off=n)) b (i.e.ls.drop b)=c)
   (λd=>(d.1 = .ext 0∧d.2.2=u∧c<1)∨(d.1 = .ret∧Z 0 d.2.1 = .bool true∧¬c<1∧∃o,aR d.2.2 h.length dD 3 ((i.e.ls.drop c.toNat).map cR) o∧d.2.2[h.length+1]?=some (.row aH 11 [[.str i.r,.int .i64 i.e.a0,.int .i64 i.e.a1,.int .i64 n,.int .i64 i.e.a3,o,.int .i64 i.e.a5,.int .i64 i.e.a6,.str i.e.s7,.str i.e.s8,i.e.fd]])∧h.length≤d.2.2.length∧∀a,a<h.length→d.2.2[a]?=h[a]?)) i.e.ls.length ⟨rfl,_,_,_,1,rfl,rfl,bB _,ar⟩ ?_ ?_
 ·rintro k K p ⟨rfl,y,aa,ac,b,rfl,be,bg,s⟩;simp only[IQ,aW,bL,bs,aL,hX i.e.ft,bS];refine Wp.dF ?_ ?_
  ·intro q;have q:b<i.e.ls.length:=fe q;have ae:i.e.ls[b]?=some i.e.ls[b]:=dG q;have az:=eR b (by omega);rw[hS q]at s;generalize i.e.ls[b]=d at ae s;simp only[m0 i.e.ft,jJ,aN,eQ,ae,hU,bs,cR,C3,eU,e8];refine Wp.dF ?_ ?_
   ·intro F;have au:c=b:=by
     rw[← s];unfold idx;rw[bO F]
    obtain⟨bj,ax,a4⟩:=tV (T:=tab) (t:=bU) (i:=tZ) (j:=r5) (id rfl) (id rfl) (id rfl) (id rfl) i.e.ft (k :=.i64) (n:=(b:Int)) (by omega) (by omega);simp only[ax,bs];refine r7 (n0:=h.length) (by omega) (aR.aA _ _ _ _) (mB _ a4) (by simp;omega) λo ad P bi al ab av=>?_
    rw[kp]at P;replace z:=(ab h.length (by omega) (by rintro⟨_,_,m⟩;cases m)).trans z;replace A:=(ab (h.length+1) (by omega) (by rintro⟨_,_,m⟩;cases m)).trans A;simp only[lB,qs,jY,eS,bs];refine lJ z (by rfl) (by rfl) (by simp[-a7N,aT,bG]) (by rfl) λbb Q B=>?_
    have N:=fT (jj P);refine qX Q (by rfl) (by rw[N.1];rfl) (by simp[-a7N,dZ,cX,aT,bG]) N.2 λan aj a9=>?_
    rw[N.1]at aj;replace Q:an[h.length]?=some (.row aH 11 [[.str i.r,.int .i64 i.e.a0,.int .i64 i.e.a1,.int .i64 n,.int .i64 i.e.a3,o,.int .i64 i.e.a5,.int .i64 i.e.a6,.str i.e.s7,.str i.e.s8,i.e.fd]]):=aj;replace B:=B.trans a9;replace A:=(B.2 (h.length+1) (by omega)).trans A;simp only[nP Q rfl,bs];refine l5 A (by rfl) (by rfl) (by simp) (by rfl) λL g X=>?_
    replace g:L[h.length+1]?=some (.row aH 11 [[.str i.r,.int .i64 i.e.a0,.int .i64 i.e.a1,.int .i64 n,.int .i64 i.e.a3,o,.int .i64 i.e.a5,.int .i64 i.e.a6,.str i.e.s7,.str i.e.s8,i.e.fd]]):=g;have a7:aR L h.length dD 3 ((i.e.ls.drop c.toNat).map cR) o:=by
     subst au;refine P.cL λa f aq=>?_
     have bh:p.length≤a:=by
      rcases av a aq with m|m
      ·obtain⟨_,_,m⟩:=m;cases m
      ·exact m
     exact(X.2 a (by omega)).trans (B.2 a (by omega))
    refine .some (.inr ⟨by simp,.inr ⟨rfl,rfl,by omega,o,a7,g,?_,λa f=>?_⟩⟩)
    ·show h.length≤L.length;have:=B.1;have:=X.1;omega
    ·exact(((X.2 a (by omega)).trans (B.2 a (by omega))).trans (al a f)).trans (G a f)
   ·intro F;have F:¬decide (d.off=n)=true:=by simp[-a7N,F]
    unfold idx at s;rw[cC F]at s;simp only[cO,bs,az];exact .some (.inl ⟨rfl,k - 1,by omega,rfl,_,_,_,b+1,rfl,by omega,by omega,s⟩)
  ·intro q;have q:i.e.ls.length≤b:=by
    have:¬(b:Int)<i.e.ls.length:=by simpa using q
    omega
   rw[kD q]at s;have:c = -1:=s.symm;exact .some (.inr ⟨by simp,.inl ⟨rfl,rfl,by omega⟩⟩)
 ·rintro⟨ba,K,p⟩ aw;rcases aw with⟨v,w,E⟩|⟨v,w,E,o,ah,g,x,af⟩
  ·simp only at v w;subst v;subst w;simp only[dA,cN,L5,bs];refine l5 A (by rfl) (by rfl) (by simp) (by rfl) λad g ak=>?_
   replace g:ad[h.length+1]?=some (.row aH 11 [aT k6]):=g;simp only[nP g rfl,bs,gp];rw[ff (d' :=.bD [.agg (aT k6),.bool false]) (by rfl) (.bD _ λam D=>by
    simp at D;rcases D with rfl|rfl
    ·exact pK _ _
    ·constructor) (by have:=ak.1;omega) (λa f=>(ak.2 a (by omega)).trans (G a f))]
   exact .some ⟨rfl,k6,by simp[-a7N,E],by simp[-a7N,E]⟩
  ·simp only at v w ah g x af;subst v;simp only[jQ,jG,jX,aW,w,nP g rfl,bs,gp];have ay:=gS (n0:=h.length) (n:=1) ah (bB _) (λy _=>nQ _ p _ y);have ap:cS h.length p 2 i.e.fd=i.e.fd:=iJ i.e.gH (λy _=>pt _ p _ y);generalize ag:(⟨i.r,⟨i.e.a0,i.e.a1,n,i.e.a3,i.e.ls.drop c.toNat,cS h.length p 2 o,i.e.a5,i.e.a6,i.e.s7,i.e.s8,i.e.fs,i.e.fd,i.e.gH,i.e.hl,ay,by have:=i.e.qB;simp[-a7N];omega⟩⟩:It)=j;have ao:n7 i n c.toNat j:=by subst ag;exact⟨rfl,rfl,rfl,rfl,rfl,rfl,rfl,rfl,rfl,rfl,rfl⟩
   rw[ff (d' :=.bD [.agg (aT j),.bool true]) (by subst ag;simp[-a7N,aT,bG,ap]) (.bD _ λam D=>by
    simp at D;rcases D with rfl|rfl
    ·exact pK _ _
    ·constructor) x af]
   exact .some ⟨rfl,j,by simp[-a7N,E],by simp[-a7N,E];exact ao⟩
def inr(n:Int):List D:=[.int .i64 n]
def jF:List Int→Int
 |[]=>0
 |x::r=>if x=0 then jF r else x
theorem l89(l:List Int)(d:D)(h:J)(m:aI 1 inr l d)(x:l.length≤9223372036854775807){s:Type}(j:bK→Option s)(X:Int→Option s)
   (u:∀v r,j (.ret,.int .i64 v::r,h)=X v) (w:∀r,j (.ext 0,r,h)=X 0):∀(g c:List Int),l=c++g→∀n:Int,n=c.length→∀a b e f,
   (cA (uz (.int .i64 0) d (.int .i64 l.length)) [a,b,.int .i64 n,e,f] h).bind j=X (jF g):=by
 intro g
 induction g with
 | nil =>
  rintro c rfl n rfl a b e f;rw[iX];simp[-a7N,uz,w,jF]
 | cons i g z =>
  rintro c rfl n rfl a b e f;have y:IntKind.wrap .i64 ((c.length:Int)+1)=(c++[i]).length:=by
   rw[bJ (by omega) (by simp at x;omega)];simp[-a7N]
  have p:(c.length:Int)<(c++i::g).length:=by simp;omega
  rw[iX];generalize k:c++i::g=t at *;have o:t[c.length]?=some i:=by rw[← k];exact vB _ _ _
  by_cases q:i=0
  ·subst q;have:=z (c++[0]) (by simp[-a7N,← k]) _ rfl a (.int .i64 0) (.bool true) (.bool false);simp only[← y]at this;simp[-a7N,uz,OI m,p,o,inr,jF];exact this
  ·simp[-a7N,uz,OI m,p,o,inr,q,u,jF]
theorem HL(l:List Int)(d:D)(h:J)(a:aI 1 inr l d)(c:l.length≤9223372036854775807):R vy [d] h=some (.int .i64 (jF l),h):=by
 rw[VY];simp only[Lf,bs,a1z a,aL];rw[l89 l d h a c _ (λb=>some (.int .i64 b,h)) (λb e=>by simp) (λe=>by simp) l [] rfl 0 rfl]
structure bY where
 h:Int
 f:Int
 o:Int
 deriving DecidableEq
def cZ(m:bY):List D:=[.int .i64 m.h,.int .i64 m.f,.int .i64 m.o]
theorem zq(m:bY)(h:J):Y tab h eO (.aE (cZ m))=some (.agg (cZ m)):=id rfl
def gV(a b:bY):Int:=jF [hA a.h b.h,hA a.f b.f]
theorem a3k(a b:bY)(h:J):R x7 [.agg (cZ a),.agg (cZ b)] h=some (.int .i64 (gV a b),h):=by
 have g:∀c d:Int,dL tab iR 2 [0,1] [.int .i64 c,.int .i64 d]=some (.sl 1 true ([c,d].map inr)):=λc d=>id rfl
 have e:=HL [hA a.h b.h,hA a.f b.f] (.sl 1 true [inr (hA a.h b.h),inr (hA a.f b.f)]) h (aI.mk 1 inr [hA a.h b.h,hA a.f b.f] true) (by simp);rw[Ui];simp[-a7N,I0,cZ,HM,g,e,gV]
theorem LZ{l:List (aD × aD)}(h:(l.map (·.1)).Sublist mq):Ay l:=by
 have i:mq.Pairwise λc d=>Op.bytesLess c d=true∧c≠d:=by decide
 have:=i.sublist h;rw[om]at this;intro e j k a b;obtain⟨f,a⟩:=bR.1 a;obtain⟨g,b⟩:=bR.1 b;have:=this e (e+1) (by simpa using f) (by simpa using g) (by omega);simpa[-a7N,a,b]using this
theorem N5{l:List (aD × aD)}(h:(l.map (·.1)).Sublist mq):∀p∈l,ic p.1=true∧p.1.length≤1000:=by
 intro p c;have b:p.1∈mq:=h.subset (g8.2 ⟨p,c,rfl⟩);exact(show ∀a∈mq,ic a=true∧a.length≤1000 by decide) _ b
theorem PC(g:J)(T z:Nat)(rows:List (List D)):(aG g T z rows)[g.length]?=some (.row T z rows):=by simp[-a7N,aG]
theorem PE(g:J)(T z:Nat)(rows:List (List D)){a:Nat}(b:a<g.length):(aG g T z rows)[a]?=g[a]?:=by
 simp only[aG];rw[fg b]
theorem PD(g:J)(T z:Nat)(rows:List (List D)):(aG g T z rows).length=g.length+1:=by simp[-a7N,aG]
theorem HF(n lo hi:Int)(h:J):R tc [.int .i64 n,.int .i64 lo,.int .i64 hi] h=some (.bool (decide (lo≤n)&&decide (n≤hi)),h):=by
 rw[UF];by_cases a:lo≤n<;>simp[-a7N,Jp,a]
def gX(e:Ev):Bool:=(decide (0≤e.a0)&&decide (e.a0≤999))&&((decide (0≤e.a1)&&decide (e.a1≤2147483646))&&(decide (0≤e.a2)&&(decide (e.a2<e.a3)&&decide (e.a3≤60000))))
theorem QG(e:Ev)(h:J):R ye [.agg (bG e)] h=some (.bool (gX e),h):=by
 rw[UB];have a:=HF e.a1 0 2147483646 h;simp only[Jk,bs,gq,bG,mT,mU,lA,iB,eU,HF e.a0,mO,dE,iw,gX];generalize (decide (0≤e.a0)&&decide (e.a0≤999))=b;generalize (decide (0≤e.a1)&&decide (e.a1≤2147483646))=c at a ⊢;generalize i:decide (0≤e.a2)=d;generalize j:decide (e.a2<e.a3)=f;generalize k:decide (e.a3≤60000)=g;cases b<;>cases c<;>cases d<;>cases f<;>cases g<;>simp[-a7N,a,i,j,k]
def jP(a b:Int):Int→List eV→Int
 |_,[]=>0
 |at_,l::r=>if l.off=at_∧¬l.len<1∧¬IntKind.wrap .i64 (a - at_)<l.len∧¬(r=[]∧l.len<IntKind.wrap .i64 (a - at_))then(if b<l.fj.length then 3 else jP a b (IntKind.wrap .i64 (at_+l.len)) r)else 19
def ig(e:Ev)(a:Int):Int:=if e.ls.length=0 then 9 else if 40<e.ls.length then 4 else jP e.a3 a e.a2 e.ls
end Go.Proofs.YtkcdpfogoepamaaGreatDoor
