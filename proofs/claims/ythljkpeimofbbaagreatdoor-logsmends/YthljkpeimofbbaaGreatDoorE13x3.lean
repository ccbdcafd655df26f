/- Lemmas, printed by a program and by hand; no statement is proved here. -/
import Derived.Test.YthljkpeimofbbaaGreatDoorE13x2
set_option linter.unusedVariables false
set_option linter.unusedSimpArgs false
set_option linter.unusedSectionVars false
set_option maxHeartbeats 4000000
set_option maxRecDepth 100000
namespace Go.Proofs.YthljkpeimofbbaaGreatDoor
open Go.Lib (decDigits)
section
def Ll(a:Nat)(l:AcP):Nat:=l.foldl (fun a b=>10 * a + (b.toNat - 48)) a
def Fv(l:AcP):Nat:=Ll 0 l
theorem Ka(a:Nat)(b:UInt8)(l:AcP):Ll a (b::l)=Ll (10 * a + (b.toNat - 48)) l:=by unfold Ll;rw[wF]
theorem Xs(a:Nat)(l:AcP)(b:UInt8):Ll a (l++[b])=10 * Ll a l + (b.toNat - 48):=by unfold Ll;rw[vJ];rfl
theorem O0(l:AcP)(b:UInt8):Fv (l++[b])=10 * Fv l + (b.toNat - 48):=Xs 0 l b
theorem Aaw{b:UInt8}(h:isD b=true):48<=b.toNat/\b.toNat<=57:=by
 unfold isD at h
 simpa only [xB,decide_eq_true_eq]using h
theorem Aac(l:AcP):∀(a k:Nat),l.all isD=true->a < 10 ^ k->Ll a l < 10 ^ (k + l.length):=by
 induction l with
 | nil=>intro a k _ h;exact h
 | cons b l ih=>
  intro a k hd h;rw[Ka];simp only[zZ,xB]at hd;have hb:=Aaw hd.1;have hp:10 ^ (k + 1)=10 ^ k * 10:=Nat.pow_succ ..
  have:=ih (10 * a + (b.toNat - 48)) (k + 1) hd.2 (by omega);rw[xH,show k + (l.length + 1)=k + 1 + l.length by omega];exact this
theorem TI{l:AcP}(h:l.all isD=true):Fv l < 10 ^ l.length:=by
 have:=Aac l 0 0 h (by decide)
 simpa [Fv]using this
theorem dig{b:UInt8}(h:isD b=true):Go.Lib.digitVal b=some (b.toNat - 48):=by
 unfold isD at h;simp only[xB,decide_eq_true_eq]at h;unfold Go.Lib.digitVal;rw[if_pos h]
theorem Oi:∀(l:AcP)(a:Nat),l.all isD=true->Go.Lib.decFrom a l=some (Ll a l)
 | [],a,_=>rfl
 | b::l,a,h=>by
  simp only[zZ,xB]at h;unfold Go.Lib.decFrom;rw[dig h.1,Ka,Nat.mul_comm 10 a];exact Oi l _ h.2
theorem Sn{l:AcP}(h:l.all isD=true)(hn:1<=l.length):Go.Lib.atoi l=some (Fv l:Int):=by
 match l,h,hn with
 | b::r,h,_=>
  have hb:=h;simp only[zZ,xB]at hb;have G:(b==45)=false:=by rw[beq_eq_false_iff_ne];rintro rfl;exact absurd hb.1 (by decide)
  have I:(b==43)=false:=by rw[beq_eq_false_iff_ne];rintro rfl;exact absurd hb.1 (by decide)
  unfold Go.Lib.atoi;simp only[G,I,xU,if_false];unfold Go.Lib.decNat;simp only[List.isEmpty_cons,xU,if_false];rw[Oi _ _ h];rfl
def Gm(s:AcP):Bool:=s.all isD&&wiB s.length 1 9
def Dj(s:AcP):Int:=if Gm s=true then(Fv s:Int)else -1
theorem TF{k:Nat}(h:k<=9):10 ^ k<=1000000000:=wH (Nat.pow_le_pow_right (by decide) h) (by decide)
theorem Jt{s:AcP}(h:Gm s=true):Fv s < 1000000000/\1<=s.length/\s.length<=9/\s.all isD=true:=by
 unfold Gm wiB at h;simp only[xB,decide_eq_true_eq]at h;exact⟨zH (TI h.1) (TF h.2.2),h.2.1,h.2.2,h.1⟩
section
variable {N:Nat} {s:AcP}
theorem Rk(hN:s.length < N):Df N s=some (Dj s):=by
 unfold Df Dj;rw[J9 (Wy N) s 9 hN,oS,show(decide ((1:Int)<=(s.length:Int))&&decide ((s.length:Int)<=(9:Int)))=wiB s.length 1 9 from Kv _ 1 9];have e:(s.all isD&&wiB s.length 1 9)=Gm s:=rfl;rw[e];cases h:Gm s with
 | false=>rfl
 | true=>
  have hl:=Jt h;rw[xO,cF,if_pos rfl];unfold CW;rw[if_pos (by omega),Go.Lib.atoiAll_short s (by omega),Sn hl.2.2.2 hl.2.1];rfl
theorem AaQ{b:UInt8}(h:isD b=true):W64 (IntKind.u8.wrap ((b.toNat:Int) - 48))=((b.toNat - 48:Nat):Int):=by
 unfold isD at h;simp only[xB,decide_eq_true_eq]at h;have e:IntKind.u8.wrap ((b.toNat:Int) - 48)=((b.toNat - 48:Nat):Int):=by
  unfold IntKind.wrap;simp[IntKind.bits,IntKind.signed];omega
 rw[e,A4 (by omega) (by omega)]
theorem O1(hN:s.length < N):BD N s=some (Dj s):=by
 unfold BD Dj;by_cases hw:1<=s.length/\s.length<=9
 ·rw[decide_eq_false (by omega),decide_eq_false (by omega),wK,cF];obtain⟨o,ho,hR⟩:=Cc (body:=Ew N s) s.length (fun i st=>st=((Fv (s.take i):Int),(i:Int))/\(s.take i).all isD=true)
   (fun o=>(s.all isD=true/\ ∃ j,o=.done ((Fv s:Int),j))\/(s.all isD=false/\o=.ret (-1))) (by
    rintro i st hi ⟨rfl,hall⟩;by_cases h:i < s.length
    ·have htake:s.take (i + 1)=s.take i++[s[i]]:=by rw[xV,xA h];rfl
     unfold Ew;simp only[BB h,cT,DU h,oS,N3];cases hd:isD s[i]with
     | false=>
      refine .inr ⟨.ret (-1),rfl,(fun _ e=>by cases e),.inr ⟨?_,rfl⟩⟩;rw[List.all_eq_false];exact⟨s[i],xT h,by rw[hd];simp⟩
     | true=>
      have hlt:Fv (s.take i) < 1000000000:=zH (TI hall) (TF (by rw[xW];omega));refine .inl ⟨_,by simp only[xO,cF,AaQ hd];rfl,⟨?_,?_⟩,h⟩
      ·have:=s[i].toNat_lt;rw[htake,O0,Cx i (by omega),A4 (n:=10 * (Fv (s.take i):Int)) (by omega) (by omega)];rw[A4 (by omega) (by omega)];congr 1
      ·rw[htake,zB,hall];simp[hd]
    ·have:i=s.length:=by omega
     subst this;unfold Ew;simp only[BE,cF];rw[xS]at hall ⊢;exact .inr ⟨_,rfl,(fun _ e=>by cases e),.inl ⟨hall,_,rfl⟩⟩) s.length N 0 (0,0) (by omega) ⟨rfl,rfl⟩ hN
  rw[ho];have e:Gm s=s.all isD:=by unfold Gm wiB;rw[decide_eq_true hw.1,decide_eq_true hw.2];simp
  rw[e];rcases hR with⟨G,j,rfl⟩ | ⟨G,rfl⟩
  ·rw[G];rfl
  ·rw[G];rfl
 ·have hg:(decide ((s.length:Int) < 1)||decide ((s.length:Int) > 9))=true:=by
   simp only[yP,decide_eq_true_eq];omega
  rw[hg,cT];have:Gm s=false:=by
   cases hh:Gm s with
   | false=>rfl
   | true=>have:=Jt hh;omega
  rw[this];rfl
end
def K6(d:Nat):UInt8:=UInt8.ofNat (48 + d)
theorem LS{d:Nat}(h:d < 10):(K6 d).toNat=48 + d:=by unfold K6;rw[UInt8.toNat_ofNat'];omega
theorem WX{d:Nat}(h:d < 10):isD (K6 d)=true:=by unfold isD;rw[LS h];simp;omega
theorem FS{u:Nat}(h:u < 10):decDigits u=[K6 u]:=by rw[decDigits,dif_pos h];rfl
theorem RL{u:Nat}(h:¬ u < 10):decDigits u=decDigits (u / 10)++[K6 (u % 10)]:=by
 conv=>lhs;rw[decDigits,dif_neg h]
 rfl
theorem Ns(u:Nat):1<=(decDigits u).length:=by
 by_cases h:u < 10
 ·rw[FS h];simp
 ·rw[RL h];simp
theorem KJ(u:Nat):(decDigits u).all isD=true:=by
 induction u using Nat.strongRecOn with
 | _ u ih=>
  by_cases h:u < 10
  ·rw[FS h];simp[WX h]
  ·rw[RL h,zB,ih (u / 10) (by omega)];simp[WX (Nat.mod_lt u (by decide:0 < 10))]
theorem Nu(u:Nat):Fv (decDigits u)=u:=by
 induction u using Nat.strongRecOn with
 | _ u ih=>
  by_cases h:u < 10
  ·rw[FS h];show 10 * 0 + ((K6 u).toNat - 48)=u;rw[LS h];omega
  ·rw[RL h,O0,ih (u / 10) (by omega),LS (Nat.mod_lt u (by decide:0 < 10))];omega
theorem JL:∀(k u:Nat),u < 10 ^ (k + 1)->(decDigits u).length<=k + 1
 | 0,u,h=>by rw[FS (by simpa using h)];simp
 | k + 1,u,h=>by
  by_cases hu:u < 10
  ·rw[FS hu];simp
  ·rw[RL hu,xD];have:=JL k (u / 10) (by rw[Nat.pow_succ]at h;omega);simp;omega
def dP(k u:Nat):AcP:=List.replicate (k - (decDigits u).length) 48++decDigits u
theorem AbH(u:Nat):dP 1 u=decDigits u:=by unfold dP;rw[show 1 - (decDigits u).length=0 by have:=Ns u;omega];rfl
theorem JM(k u:Nat):(dP k u).all isD=true:=by
 unfold dP;rw[zB,KJ,Bool.and_true,xN];intro b hb;rw[List.eq_of_mem_replicate hb];decide
theorem VT(j:Nat)(l:AcP):Ll 0 (List.replicate j 48++l)=Ll 0 l:=by
 induction j with
 | zero=>rfl
 | succ j ih=>rw[List.replicate_succ,zS,Ka];exact ih
theorem V8(k u:Nat):Fv (dP k u)=u:=by
 unfold dP Fv;rw[VT];exact Nu u
theorem O8(k u:Nat):k<=(dP k u).length/\1<=(dP k u).length:=by
 unfold dP;have:=Ns u;rw[xD,wU];omega
theorem LR{k j u:Nat}(h:u < 10 ^ (j + 1)):(dP k u).length<=max k (j + 1):=by
 unfold dP;have:=JL j u h;rw[xD,wU];omega
theorem Wt:∀ n,Go.Lib.repeatL [48] n=List.replicate n 48
 | 0=>rfl
 | n + 1=>by unfold Go.Lib.repeatL;rw[Wt n];rfl
section
variable {N:Nat}
theorem Ro(u:Nat)(h:u<=1000000000):strconv_Itoa N (u:Int)=some (decDigits u):=by
 unfold strconv_Itoa;rw[if_pos (by omega),Go.Lib.itoa_nonneg]
theorem Rj(u k:Nat)(h:u<=1000000000)(hk:k<=100):CH N (u:Int) (k:Int)=some (dP k u):=by
 unfold CH;rw[Ro u h,oS];have hl:(decDigits u).length<=10:=JL 9 u (by omega);rw[A4 (by omega) (by omega)];have e:max (0:Int) ((k:Int) - ((decDigits u).length:Int))=((k - (decDigits u).length:Nat):Int):=by omega
 rw[e];unfold strings_Repeat;rw[if_pos (by simp;omega),oS,wP,Wt];rw[AL (by simp;omega)];rfl
def PO(k u:Nat):AcP:=if h:u=0 then List.replicate k 48 else PO (k - 1) (u / 10)++[K6 (u % 10)]
termination_by u
decreasing_by omega
theorem ZV(k u:Nat)(h:1<=k\/1<=u):PO k u=dP k u:=by
 induction u using Nat.strongRecOn generalizing k with
 | _ u ih=>
  by_cases G:u=0
  ·subst G;rw[PO,dif_pos rfl];unfold dP;rw[FS (by decide)];have e:k=(k - 1) + 1:=by omega
   conv=>lhs;rw[e,List.replicate_succ']
   rfl
  ·rw[PO,dif_neg G];by_cases I:u < 10
   ·rw[show u / 10=0 by omega,show u % 10=u by omega,PO,dif_pos rfl];unfold dP;rw[FS I];rfl
   ·rw[ih (u / 10) (by omega) (k - 1) (by omega)];unfold dP;rw[RL I,xD,<-yG];congr 3;simp;omega
theorem Va(d:Nat)(h:d < 10):IE ([48,49,50,51,52,53,54,55,56,57]:AcP) (d:Int) ((d + 1:Nat):Int)=some [K6 d]:=by
 rw[Er (by omega) (by simp;omega)];have:∀ d:Fin 10,(([48,49,50,51,52,53,54,55,56,57]:AcP).drop d.val).take (d.val + 1 - d.val)=[K6 d.val]:=by decide
 rw[this ⟨d,h⟩]
theorem Xm{k u:Nat}(h:1<=k\/1<=u):PO k u=PO (k - 1) (u / 10)++[K6 (u % 10)]:=by
 by_cases G:u=0
 ·subst G;have e:k=(k - 1) + 1:=by omega
  rw[PO,dif_pos rfl,PO,dif_pos rfl]
  conv=>lhs;rw[e,List.replicate_succ']
  rfl
 ·rw[PO,dif_neg G]
theorem Rp(x:Int)(k:Nat)(hk:k<=100):∀(m u:Nat)(acc:AcP),u<=1000000000->acc.length + (k - acc.length) + u < 100000000000->u + (k - acc.length) < m->
  AF (CE N x (k:Int)) m ((u:Int),acc)=some (.done (0,PO (k - acc.length) u++acc)):=by
 intro m
 induction m with
 | zero=>intro u acc _ _ h;omega
 | succ m ih=>
  intro u acc hu hb hm;unfold AF;by_cases G:u=0/\k<=acc.length
  ·obtain⟨rfl,G⟩:=G;have e:CE N x (k:Int) (((0:Nat):Int),acc)=some (.done (0,acc)):=by
    unfold CE;rw[show(decide ((((0:Nat):Int),acc).1 > 0)||decide (((((0:Nat):Int),acc).2.length:Int) < (k:Int)))=false by rw[decide_eq_false (by simp),decide_eq_false (by simp;omega)];rfl,cF];rfl
   rw[e,PO,dif_pos rfl,show k - acc.length=0 by omega];rfl
  ·have e:CE N x (k:Int) ((u:Int),acc)=some (.next (((u / 10:Nat):Int),K6 (u % 10)::acc)):=by
    unfold CE;have hc:(decide (((u:Int),acc).1 > 0)||decide ((((u:Int),acc).2.length:Int) < (k:Int)))=true:=by
     simp only[yP,decide_eq_true_eq];omega
    rw[hc,cT];simp only;have I:Int.tmod (u:Int) 10=((u % 10:Nat):Int):=by rw[Int.tmod_eq_emod_of_nonneg (by omega)];omega
    have J:Int.tdiv (u:Int) 10=((u / 10:Nat):Int):=by rw[Int.tdiv_eq_ediv_of_nonneg (by omega)];omega
    rw[I,J,Cx (u % 10) (by omega),Va _ (Nat.mod_lt u (by decide)),oS,AL (by simp;omega),oS,A4 (by omega) (by omega)];rfl
   rw[e];show AF _ m _=_;rw[ih (u / 10) (K6 (u % 10)::acc) (by omega) (by simp only[xH];omega) (by simp only[xH];omega)];rw[Xm (k:=k - acc.length) (u:=u) (by omega),xH,yG,show k - (acc.length + 1)=k - acc.length - 1 by omega];rfl
theorem Mr(u k:Nat)(h:u<=1000000000)(hk:k<=100)(G:1<=k)(hN:4294967300 < N):Bi N (u:Int) (k:Int)=some (dP k u):=by
 unfold Bi;rw[Rp (u:Int) k hk N u [] h (by simp;omega) (by simp;omega)];rw[zC,Nat.sub_zero,zD,ZV k u (.inl G)];rfl
end
end
section
def Gy(u:Nat):AcP:=decDigits (u / 1440 + 1)++32::(dP 2 (u / 60 % 24)++dP 2 (u % 60))
def Dm(x:Int):AcP×Int:=if 0<=x/\x<=20000 then(Gy x.toNat,0)else([],1)
theorem Ul(u k:Nat)(h:u < 4611686018427387904):W64 (Int.tdiv (u:Int) (k:Int))=((u / k:Nat):Int):=by
 have:Int.tdiv (u:Int) (k:Int)=((u / k:Nat):Int):=by rw[Int.tdiv_eq_ediv_of_nonneg (by omega)];rfl
 have G:u / k<=u:=Nat.div_le_self _ _;rw[this];generalize u / k=v at G;rw[A4 (by omega) (by omega)]
theorem Uk(u k:Nat):Int.tmod (u:Int) (k:Int)=((u % k:Nat):Int):=by
 rw[Int.tmod_eq_emod_of_nonneg (by omega)];rfl
theorem Oj{u:Nat}(h:u < 100000):(decDigits u).length<=5:=JL 4 u (by omega)
theorem Hs{u:Nat}(h:u < 100):(dP 2 u).length=2:=by
 have h1:=O8 2 u;have h2:=LR (k:=2) (j:=1) (u:=u) (by omega);omega
section
variable {N:Nat}
theorem Pv(x:Int):DM N x=some (Dm x):=by
 unfold DM Dm;rw[Ri,oS];by_cases h:0<=x/\x<=20000
 ·rw[if_pos h,decide_eq_true h.1,decide_eq_true h.2];obtain⟨u,rfl⟩:∃ u:Nat,x=u:=⟨x.toNat,by omega⟩;have hu:u<=20000:=by omega
  simp only[Bool.and_self,xO,cF];have G:=Ul u 1440 (by omega);have I:=Ul u 60 (by omega);simp only[wN]at G I;have J:=Uk (u / 60) 24;have O:=Uk u 60;simp only[wN]at J O;rw[G,I,J,O,Cx (u / 1440) (by omega),Ro _ (by omega),oS];have h0:=Oj (u:=u / 1440 + 1) (by omega);have h1:=Hs (u:=u / 60 % 24) (by omega);have h2:=Hs (u:=u % 60) (by omega);have p1:=Rj (N:=N) (u / 60 % 24) 2 (by omega) (by omega);have Y:=Rj (N:=N) (u % 60) 2 (by omega) (by omega);simp only[wN]at p1 Y;rw[AL (by simp;omega),oS,p1,oS,AL (by simp;omega),oS,Y,oS,AL (by simp;omega),oS];unfold Gy;simp
 ·rw[if_neg h];have:(decide (0<=x)&&decide (x<=20000))=false:=by
   rw[zP,decide_eq_false_iff_not,decide_eq_false_iff_not];omega
  rw[this];rfl
theorem NR(x:Int)(hN:4294967300 < N):CS N x=some (Dm x):=by
 unfold CS Dm;rw[Iu,oS];by_cases h:0<=x/\x<=20000
 ·rw[if_pos h,decide_eq_true h.1,decide_eq_true h.2];obtain⟨u,rfl⟩:∃ u:Nat,x=u:=⟨x.toNat,by omega⟩;have hu:u<=20000:=by omega
  simp only[Bool.and_self,xO,cF];have J:=Ul u 1440 (by omega);have O:=Uk u 1440;simp only[wN]at J O;have Y:=Ul (u % 1440) 60 (by omega);have Z:=Uk (u % 1440) 60;simp only[wN]at Y Z;rw[J,O,Y,Z,Cx (u / 1440) (by omega)];have d1:=Mr (N:=N) (u / 1440 + 1) 1 (by omega) (by omega) (by omega) hN;have G:=Mr (N:=N) (u % 1440 / 60) 2 (by omega) (by omega) (by omega) hN;have I:=Mr (N:=N) (u % 1440 % 60) 2 (by omega) (by omega) (by omega) hN;simp only[wN]at d1 G I;have q2:u % 1440 / 60=u / 60 % 24:=by omega
  have q3:u % 1440 % 60=u % 60:=by omega
  rw[q2]at G ⊢;rw[q3]at I ⊢;have h0:=Oj (u:=u / 1440 + 1) (by omega);have h1:=Hs (u:=u / 60 % 24) (by omega);have h2:=Hs (u:=u % 60) (by omega);have d1':Bi N ((u / 1440 + 1:Nat):Int) 1=some (decDigits (u / 1440 + 1)):=by rw[<-AbH];exact d1
  rw[d1',oS,AL (by simp;omega),oS,G,oS,AL (by simp;omega),oS,I,oS,AL (by simp;omega),oS];unfold Gy;simp
 ·rw[if_neg h];have:(decide (0<=x)&&decide (x<=20000))=false:=by
   rw[zP,decide_eq_false_iff_not,decide_eq_false_iff_not];omega
  rw[this];rfl
def LA(p q:Nat):Nat:=(p - 1) * 1440 + q / 100 * 60 + q % 100
theorem Wl{p q:Nat}(h1:1<=p)(hp:p < 1000000000)(hq:q < 1000000000):W64 ((W64 ((W64 ((W64 ((p:Int) - 1)) * 1440)) + (W64 ((W64 (Int.tdiv (q:Int) 100)) * 60)))) + (Int.tmod (q:Int) 100))=(LA p q:Int):=by
 have G:=Ul q 100 (by omega);have I:=Uk q 100;simp only[wN]at G I;rw[G,I,A4 (n:=(p:Int) - 1) (by omega) (by omega),A4 (n:=((p:Int) - 1) * 1440) (by omega) (by omega),A4 (n:=((q / 100:Nat):Int) * 60) (by omega) (by omega)];rw[A4 (n:=((p:Int) - 1) * 1440 + ((q / 100:Nat):Int) * 60) (by omega) (by omega),A4 (by omega) (by omega)];unfold LA;omega
def JI(s a b:AcP):Int×Int:=if Gm a&&Gm b&&decide (1<=Fv a)&&decide (Dm (LA (Fv a) (Fv b))=(s,0))then((LA (Fv a) (Fv b):Int),0)else(0,13)
def FH(s:AcP):Int×Int:=match pcs 32 s with
 | [a,b]=>JI s a b
 | _=>(0,13)
theorem Xt{s:AcP}(h:(32:UInt8)∈s):Gm s=false:=by
 cases hh:Gm s with
 | false=>rfl
 | true=>
  have:=xN.1 (Jt hh).2.2.2 _ h
  revert this;decide
theorem Yv:Gm []=false:=rfl
theorem TH(s t:AcP)(e:Int):((e !=0)||(t !=s))= !decide ((t,e)=(s,0)):=by
 by_cases G:e=0
 ·by_cases I:t=s
  ·subst G;subst I;simp
  ·rw[decide_eq_false (fun h=>I (by injection h))];simp[I]
 ·rw[decide_eq_false (fun h=>G (by injection h))];simp[G]
theorem Ta(s a b:AcP)(ha:a.length < N)(hb:b.length < N):
  ((Df N a).bind fun I=>((Df N b).bind fun G=>(bif((decide (I < 1))||((decide (I > 20000))||(decide (G < 0))))then some ((0:Int),(13:Int))else((DM N (W64 ((W64 ((W64 ((W64 (I - 1)) * 1440)) + (W64 ((W64 (Int.tdiv G 100)) * 60)))) + (Int.tmod G 100)))).bind fun Y=>(bif((Y.2 !=0)||(Y.1 !=s))then some (0,13)else some ((W64 ((W64 ((W64 ((W64 (I - 1)) * 1440)) + (W64 ((W64 (Int.tdiv G 100)) * 60)))) + (Int.tmod G 100))),0))))))=some (JI s a b):=by
 rw[Rk ha,Rk hb,oS,oS];unfold Dj JI;cases hA:Gm a with
 | false=>
  simp only[xU,if_false,vB];rfl
 | true=>
  cases hB:Gm b with
  | false=>
   simp only[xU,if_false,if_true,vA,vB];rw[show decide ((-1:Int) < 0)=true from rfl,vY,vY];rfl
  | true=>
   simp only[if_true,Bool.and_self,yS];have hp:=Jt hA;have hq:=Jt hB;generalize Fv a=p at hp ⊢;generalize Fv b=q at hq ⊢;by_cases J:1<=p
   ·rw[decide_eq_false (show ¬ (p:Int) < 1 by omega),decide_eq_true J,decide_eq_false (show ¬ (q:Int) < 0 by omega),yR,wK,yS,Wl J hp.1 hq.1];by_cases Z:p<=20000
    ·rw[decide_eq_false (show ¬ (p:Int) > 20000 by omega),cF,Pv,oS,TH];have:((Dm (LA p q:Int)).1,(Dm (LA p q:Int)).2)=Dm (LA p q:Int):=rfl;rw[this];by_cases O:Dm (LA p q:Int)=(s,0)
     ·rw[decide_eq_true O,if_pos rfl];rfl
     ·rw[decide_eq_false O];rfl
    ·rw[decide_eq_true (show(p:Int) > 20000 by omega),cT];have O:¬ Dm (LA p q:Int)=(s,0):=by
      unfold Dm LA;rw[if_neg (by omega)];intro h;injection h with J Z;exact absurd Z (by decide)
     rw[decide_eq_false O];rfl
   ·rw[decide_eq_true (show(p:Int) < 1 by omega),decide_eq_false J];rfl
theorem Xr(s a b:AcP)(ha:a.length < N)(hb:b.length < N)(hN:4294967300 < N):
  ((BD N a).bind fun I=>((BD N b).bind fun G=>(bif((decide (I < 1))||(decide (G < 0)))then some ((0:Int),(13:Int))else((CS N (W64 ((W64 ((W64 ((W64 (I - 1)) * 1440)) + (W64 ((W64 (Int.tdiv G 100)) * 60)))) + (Int.tmod G 100)))).bind fun O=>(bif((O.2 !=0)||(O.1 !=s))then some (0,13)else some ((W64 ((W64 ((W64 ((W64 (I - 1)) * 1440)) + (W64 ((W64 (Int.tdiv G 100)) * 60)))) + (Int.tmod G 100))),0))))))=some (JI s a b):=by
 rw[O1 ha,O1 hb,oS,oS];unfold Dj JI;cases hA:Gm a with
 | false=>
  simp only[xU,if_false,vB];rfl
 | true=>
  cases hB:Gm b with
  | false=>
   simp only[xU,if_false,if_true,vA,vB];rw[show decide ((-1:Int) < 0)=true from rfl,vY];rfl
  | true=>
   simp only[if_true,Bool.and_self,yS];have hp:=Jt hA;have hq:=Jt hB;generalize Fv a=p at hp ⊢;generalize Fv b=q at hq ⊢;by_cases J:1<=p
   ·rw[decide_eq_false (show ¬ (p:Int) < 1 by omega),decide_eq_true J,decide_eq_false (show ¬ (q:Int) < 0 by omega),wK,yS,cF,Wl J hp.1 hq.1];rw[NR _ hN,oS,TH];have:((Dm (LA p q:Int)).1,(Dm (LA p q:Int)).2)=Dm (LA p q:Int):=rfl;rw[this];by_cases Y:Dm (LA p q:Int)=(s,0)
    ·rw[decide_eq_true Y,if_pos rfl];rfl
    ·rw[decide_eq_false Y];rfl
   ·rw[decide_eq_true (show(p:Int) < 1 by omega),decide_eq_false J];rfl
theorem Xc{u:Nat}(h:u<=20000):(Gy u).length<=10:=by
 have h0:=Oj (u:=u / 1440 + 1) (by omega);have h1:=Hs (u:=u / 60 % 24) (by omega);have h2:=Hs (u:=u % 60) (by omega);unfold Gy;simp;omega
theorem VP{x:Int}{s:AcP}(h:Dm x=(s,0)):s.length<=10/\0<=x/\x<=20000:=by
 unfold Dm at h;by_cases hx:0<=x/\x<=20000
 ·rw[if_pos hx]at h;injection h with h _
  rw[<-h];exact⟨Xc (by omega),hx⟩
 ·rw[if_neg hx]at h;injection h with _ h
  exact absurd h (by decide)
theorem Q9{s a b:AcP}(h:Gm b=false):JI s a b=(0,13):=by unfold JI;rw[h];simp
theorem Us(s:AcP)(hs:s.length < 4294967281)(hN:4294967300 < N):Jd N s=some (FH s):=by
 unfold Jd;have hc:strings_Cut N s [32]=some (Go.Lib.cut s [32]):=by unfold strings_Cut;rw[if_pos hs]
 rw[hc,oS];unfold FH;by_cases h:(32:UInt8)∈s
 ·obtain⟨a,t,rfl,ha⟩:=GI h;simp only[xD,xH]at hs;rw[RM ha,GS ha];simp only;rw[Ta _ a t (by omega) (by omega)];by_cases ht:(32:UInt8)∈t
  ·obtain⟨a',t',rfl,ha'⟩:=GI ht;rw[GS ha',Q9 (Xt ht)];cases hp:pcs 32 t' with
   | nil=>exact absurd hp (IL 32 t')
   | cons x l=>rfl
  ·rw[Fa ht]
 ·rw[RN h,Fa h];simp only;rw[Ta _ s [] (by omega) (by simp;omega),Q9 Yv]
theorem Tw(s:AcP)(hs:s.length < 4294967281)(hN:4294967300 < N):Ga N s=some (FH s):=by
 unfold Ga;rw[UR s (by omega) (by omega),oS];unfold FH;have hlen:∀ p,p∈pcs 32 s->p.length<=s.length:=fun p h=>by
  have:∀(c:UInt8)(s p:AcP),p∈pcs c s->p.length<=s.length:=by
   intro c s
   induction s with
   | nil=>intro p h;simp[pcs]at h;subst h;simp
   | cons b s ih=>
    intro p h;unfold pcs at h;by_cases hb:b=c
    ·rw[if_pos hb]at h;rcases xJ.1 h with rfl | h
     ·simp
     ·exact vI (ih p h)
    ·rw[if_neg hb]at h;cases hp:pcs c s with
     | nil=>exact absurd hp (IL c s)
     | cons q r=>
      rw[hp]at h ih;simp only at h;rcases xJ.1 h with rfl | h
      ·exact Nat.succ_le_succ (ih q zI)
      ·exact vI (ih p (xE _ h))
  exact this 32 s p h
 generalize pcs 32 s=ws at hlen
 match ws,hlen with
 | [],_=>simp only[zC];rw[show(((0:Nat):Int)!=2)=true from rfl,vY];rfl
 | [a],_=>simp only[yB];rw[show(((1:Nat):Int)!=2)=true from rfl,vY];rfl
 | a::b::c::l,_=>
  have:((((a::b::c::l).length:Nat):Int)!=2)=true:=by
   rw[bne_iff_ne];simp only[xH];omega
  rw[this,vY];rfl
 | [a,b],hlen=>
  have hA:=hlen a (by simp);have hB:=hlen b (by simp);have:((([a,b].length:Nat):Int)!=2)=false:=rfl;rw[this,wK];by_cases h0:s.length<=20
  ·rw[decide_eq_false (by omega),cF];have G:idx [a,b] 0=some a:=rfl;have I:idx [a,b] 1=some b:=rfl;rw[G,I];simp only[oS];exact Xr s a b (by omega) (by omega) hN
  ·rw[decide_eq_true (by omega),cT];have:¬ Dm (LA (Fv a) (Fv b))=(s,0):=fun h=>by have:=VP h;omega
   show some ((0:Int),(13:Int))=some (JI s a b);unfold JI;rw[decide_eq_false this,vA];rfl
end
theorem Yu(a:Nat)(l:AcP):Ll a l=a * 10 ^ l.length + Ll 0 l:=by
 induction l generalizing a with
 | nil=>simp[Ll]
 | cons b l ih=>
  rw[Ka,Ka,ih (10 * a + (b.toNat - 48)),ih (10 * 0 + (b.toNat - 48)),xH,Nat.pow_succ,yV,Nat.mul_comm (10 ^ l.length) 10,<-Nat.mul_assoc,Nat.mul_comm a 10,Nat.mul_zero,wT,Nat.add_assoc]
theorem Yt(l m:AcP):Fv (l++m)=Fv l * 10 ^ m.length + Fv m:=by
 unfold Fv;rw[show Ll 0 (l++m)=Ll (Ll 0 l) m by unfold Ll;rw[vJ],Yu]
theorem no32{l:AcP}(h:l.all isD=true):(32:UInt8)∉l:=fun hm=>by
 have:=xN.1 h _ hm
 revert this;decide
theorem KC{u:Nat}(h:u<=20000):FH (Gy u)=((u:Int),0):=by
 have h0:=Oj (u:=u / 1440 + 1) (by omega);have I:=Hs (u:=u / 60 % 24) (by omega);have G:=Hs (u:=u % 60) (by omega);have hall:(dP 2 (u / 60 % 24)++dP 2 (u % 60)).all isD=true:=by rw[zB,JM,JM];rfl
 have hp:pcs 32 (Gy u)=[decDigits (u / 1440 + 1),dP 2 (u / 60 % 24)++dP 2 (u % 60)]:=by
  unfold Gy;rw[GS (no32 (KJ _)),Fa (no32 hall)]
 unfold FH;rw[hp];simp only;unfold JI;have J:Gm (decDigits (u / 1440 + 1))=true:=by
  unfold Gm wiB;have:=Ns (u / 1440 + 1);rw[KJ];simp;omega
 have O:Gm (dP 2 (u / 60 % 24)++dP 2 (u % 60))=true:=by
  unfold Gm wiB;rw[hall];simp[I,G]
 have Y:Fv (dP 2 (u / 60 % 24)++dP 2 (u % 60))=u / 60 % 24 * 100 + u % 60:=by
  rw[Yt,V8,V8,G]
 have e:LA (u / 1440 + 1) (u / 60 % 24 * 100 + u % 60)=u:=by unfold LA;omega
 have hpr:Dm (u:Int)=(Gy u,0):=by unfold Dm;rw[if_pos (by omega)];rfl
 rw[J,O,Nu,Y,e,hpr,decide_eq_true (show 1<=u / 1440 + 1 by omega),decide_eq_true rfl];rfl
end
theorem UZ{ρ:Type}{body:Int->Option (A2 ρ Int)}{n:Nat}(ok:Nat->Bool)(bad:Nat->ρ)
  (hb:∀ i,i < n->body (i:Int)=some (bif ok i then .next ((i + 1:Nat):Int)else .ret (bad i))) (he:body (n:Int)=some (.done (n:Int))) {N:Nat} (hN:n < N):
  ((∀ i,i < n->ok i=true)/\AF body N 0=some (.done (n:Int)))\/(∃ i,i < n/\ok i=false/\(∀ k,k < i->ok k=true)/\AF body N 0=some (.ret (bad i))):=by
 obtain⟨o,ho,hR⟩:=Cc (body:=body) n (fun i s=>s=(i:Int)/\ ∀ k,k < i->ok k=true) (fun o=>((∀ i,i < n->ok i=true)/\o=.done (n:Int))\/(∃ i,i < n/\ok i=false/\(∀ k,k < i->ok k=true)/\o=.ret (bad i))) (by
  rintro i s hi ⟨rfl,hk⟩;by_cases h:i < n
  ·rw[hb i h];cases e:ok i with
   | true=>
    refine .inl ⟨_,rfl,⟨rfl,fun k hk'=>?_⟩,h⟩;by_cases hki:k=i
    ·subst hki;exact e
    ·exact hk k (by omega)
   | false=>exact .inr ⟨_,rfl,(fun _ h=>by cases h),.inr ⟨i,h,e,hk,rfl⟩⟩
  ·have:i=n:=by omega
   subst this;rw[he];exact .inr ⟨_,rfl,(fun _ h=>by cases h),.inl ⟨hk,rfl⟩⟩) n N 0 0 (by omega) ⟨rfl,fun k hk=>by omega⟩ hN
 rcases hR with⟨G,rfl⟩ | ⟨i,G,I,J,rfl⟩
 ·exact .inl ⟨G,ho⟩
 ·exact .inr ⟨i,G,I,J,ho⟩
theorem Xb(i:Nat)(h:i < 4611686018427387904)(h0:0 < i):W64 ((i:Int) - 1)=((i - 1:Nat):Int):=by
 rw[A4 (by omega) (by omega)];omega
section
theorem WF(s:AcP):(s !=[])= !decide (s=[]):=by
 cases s <;> rfl
def jn(l:List AcP):AcP:=Go.Lib.join l [32]
theorem Ru:jn []=[]:=rfl
theorem CX(x:AcP):jn [x]=x:=Go.Lib.join_one x [32]
theorem WQ{l:List AcP}(h:l≠[])(w:AcP):jn (l++[w])=jn l++32::w:=by
 match l,h with
 | x::r,_=>
  unfold jn;rw[zS,Go.Lib.join_cons,Go.Lib.join_cons];unfold Go.Lib.joinTail;simp
theorem VR:∀(r:List AcP)(x:AcP),(32:UInt8)∉x->(∀ y,y∈r->(32:UInt8)∉y)->pcs 32 (jn (x::r))=x::r
 | [],x,hx,_=>by rw[CX,Fa hx]
 | y::r,x,hx,hr=>by
  have ih:=VR r y (hr y (by simp)) (fun z hz=>hr z (by simp[hz]));have:jn (x::y::r)=x++32::jn (y::r):=by
   unfold jn;rw[Go.Lib.join_cons,Go.Lib.join_cons];unfold Go.Lib.joinTail;simp
  rw[this,GS hx,ih]
section
variable {N:Nat}
theorem AbS(a b:AcP)(hN:4294967300 < N):Hx N [a,b]=some (if a=[]then b else a):=by
 obtain⟨M,rfl⟩:∃ M,N=M + 3:=⟨N - 3,by omega⟩;unfold Hx;by_cases ha:a=[]
 ·rw[if_pos ha];by_cases hb:b=[]
  ·subst ha;subst hb;rfl
  ·have G:D3 (M + 3) [a,b] 0=some (.next 1):=by subst ha;rfl
   have I:D3 (M + 3) [a,b] 1=some (.ret b):=by
    show(bif(b !=([]:AcP))then some (.ret b)else some (.next (W64 (1 + 1))))=some (A2.ret b);rw[WF,decide_eq_false hb];rfl
   rw[AF,G];simp only;rw[AF,I];rfl
 ·rw[if_neg ha];have G:D3 (M + 3) [a,b] 0=some (.ret a):=by
   show(bif(a !=([]:AcP))then some (.ret a)else some (.next (W64 (0 + 1))))=some (A2.ret a);rw[WF,decide_eq_false ha];rfl
  rw[AF,G];rfl
theorem Aaf{l:List AcP}(h:l.length<=1000)(hl:∀ w,w∈l->w.length<=1000)(hN:4294967300 < N):Jq N l=some (jn l):=by
 unfold Jq;have hb:∀ i,i<=l.length->(jn (l.take i)).length<=i * 1001:=by
  intro i
  induction i with
  | zero=>intro _;simp[Ru]
  | succ i ih=>
   intro hi;have:=ih (by omega);have hw:=hl l[i] (xT (by omega));have e:l.take (i + 1)=l.take i++[l[i]]:=by rw[xV,xA (by omega)];rfl
   rw[e];by_cases I:l.take i=[]
   ·rw[I,zQ,CX];omega
   ·rw[WQ I,xD,xH];omega
 obtain⟨o,ho,rfl⟩:=Cc (body:=E5 N l) l.length (fun i st=>st=(jn (l.take i),(i:Int))) (fun o=>o=.done (jn l,(l.length:Int))) (by
  rintro i st hi rfl;by_cases G:i < l.length
  ·refine .inl ⟨_,?_,rfl,G⟩;have hbi:=hb i hi;have hw:=hl l[i] (xT G);have e:l.take (i + 1)=l.take i++[l[i]]:=by rw[xV,xA G];rfl
   unfold E5;simp only[BB G,cT,AX G,oS];rw[Cx i (by omega),e];by_cases I:i=0
   ·subst I;rw[decide_eq_false (by decide),cF,oS];simp only[List.take_zero,zQ,Ru,CX];rw[AL (by simp;omega),zQ];rfl
   ·rw[decide_eq_true (by omega),cT,WQ (by rw[Ne,<-yM,xW];omega)];rw[AL (by simp;omega),oS,oS,AL (by simp;omega)];simp
  ·have:i=l.length:=by omega
   subst this;refine .inr ⟨_,?_,(fun _ h=>by cases h),rfl⟩;unfold E5;simp only[BE,cF,xS]) l.length N 0 ([],0) (by omega) rfl (by omega)
 rw[ho];rfl
theorem PT{l:List AZ}{p:AZ->Option Bool}(F:AZ->Bool)(hp:∀ x,x∈l->p x=some (F x))(hl:l.length < 4000000000)(hN:4294967300 < N):Be N l p=some (l.any F):=by
 unfold Be B8;rcases UZ (body:=AY N l p) (n:=l.length) (fun i=>!((l[i]?.map F).getD false)) (fun i=>(i:Int)) (by
   intro i hi;unfold AY;rw[BB hi,cT,AX hi,oS,hp _ (xT hi),oS,Cx i (by omega),xA hi];simp only[vR,Option.getD_some];cases F l[i] <;> rfl) (by
   unfold AY;rw[BE,cF]) (N:=N) (by omega)with⟨G,I⟩ | ⟨i,hi,G,_,I⟩
 ·rw[I];have:l.any F=false:=by
   rw[List.any_eq_false];intro x hx;obtain⟨i,hi,rfl⟩:=List.getElem_of_mem hx;have:=G i hi;rw[xA hi]at this
   simpa using this
  rw[this];rfl
 ·rw[I];have:l.any F=true:=by
   rw[List.any_eq_true];rw[xA hi]at G;exact⟨l[i],xT hi,by simpa using G⟩
  rw[this];show some (decide ((i:Int)>=0))=some true;rw[decide_eq_true (by omega)]
def Qe(h:Bool)(n m:Int):Bool:=bif h then(decide (1<=n)&&decide (n<=m))else n==0
def CR(L:Ac)(E:Af):Bool:=Qe L.Report E.Report 599&&(Qe L.Serial E.Serial 99999&&Qe L.Zone E.Zone 99)
theorem Abi(P:AZ):CV N P=some (!Qe P.has_ P.n_ P.most_):=by
 unfold CV Qe;rw[Ri,oS];obtain⟨h,n,m,d⟩:=P;simp only;cases h with
 | true=>cases(decide (1<=n)&&decide (n<=m)) <;> rfl
 | false=>
  by_cases hn:n=0
  ·subst hn;rw[show(decide ((1:Int)<=0)&&decide (0<=m))=false by rw[decide_eq_false (by omega)];rfl];rfl
  ·have G:(n !=0)=true:=by simpa using hn
   have I:(n==0)=false:=by simpa using hn
   rw[G,I];cases(decide (1<=n)&&decide (n<=m)) <;> rfl
theorem QS(L:Ac)(E:Af)(hN:4294967300 < N):CP N L E=some (CR L E):=by
 unfold CP;unfold D7;rw[oS,PT (fun P=>!Qe P.has_ P.n_ P.most_) (fun x _=>Abi x) (by simp) hN,oS];unfold CR;simp
theorem OQ(L:Ac)(E:Af):Cr N L E=some (CR L E):=by
 unfold Cr CR;have h:∀(b:Bool)(n m:Int),Is N b n m=some (Qe b n m):=by
  intro b n m;unfold Is Qe;rw[Iu];cases b <;> rfl
 rw[h,h,h];cases Qe L.Report E.Report 599 <;> cases Qe L.Serial E.Serial 99999 <;> cases Qe L.Zone E.Zone 99 <;> rfl
def fs(L:Ac)(E:Af):List AcP:=(if L.Report=true then[dP 1 E.Report.toNat]else[])++((if L.Serial=true then[dP 3 E.Serial.toNat]else[])++(if L.Zone=true then[dP 2 E.Zone.toNat]else[]))
def Gx(L:Ac)(E:Af):AcP:=if fs L E=[]then[45]else jn (fs L E)
def Gj(L:Ac)(E:Af):AcP×Int:=if CR L E=true then(Gx L E,0)else([],1)
structure OkE(L:Ac)(E:Af):Prop where
 r:if L.Report=true then 1<=E.Report/\E.Report<=599 else E.Report=0
 s:if L.Serial=true then 1<=E.Serial/\E.Serial<=99999 else E.Serial=0
 z:if L.Zone=true then 1<=E.Zone/\E.Zone<=99 else E.Zone=0
theorem okE{L:Ac}{E:Af}(h:CR L E=true):OkE L E:=by
 unfold CR Qe at h;simp only[xB]at h;obtain⟨G,I,J⟩:=h;constructor
 ·cases hL:L.Report <;> rw[hL]at G <;> simpa using G
 ·cases hL:L.Serial <;> rw[hL]at I <;> simpa using I
 ·cases hL:L.Zone <;> rw[hL]at J <;> simpa using J
theorem OkE.le{L:Ac}{E:Af}(h:OkE L E):(0<=E.Report/\E.Report<=599)/\(0<=E.Serial/\E.Serial<=99999)/\0<=E.Zone/\E.Zone<=99:=by
 obtain⟨G,I,J⟩:=h;refine⟨?_,?_,?_⟩
 ·split at G <;> omega
 ·split at I <;> omega
 ·split at J <;> omega
theorem Mv{L:Ac}{E:Af}(h:OkE L E):∀ w,w∈fs L E->w.length<=5/\w.all isD=true/\1<=w.length:=by
 obtain⟨h1,h2,h3⟩:=h.le;intro w hw;unfold fs at hw;simp only[yF]at hw;have l1:=LR (k:=1) (j:=2) (u:=E.Report.toNat) (by omega);have l2:=LR (k:=3) (j:=4) (u:=E.Serial.toNat) (by omega);have l3:=LR (k:=2) (j:=1) (u:=E.Zone.toNat) (by omega);rcases hw with hw | hw | hw
 ·split at hw
  ·simp at hw;subst hw;exact⟨by omega,JM _ _,(O8 _ _).2⟩
  ·cases hw
 ·split at hw
  ·simp at hw;subst hw;exact⟨by omega,JM _ _,(O8 _ _).2⟩
  ·cases hw
 ·split at hw
  ·simp at hw;subst hw;exact⟨by omega,JM _ _,(O8 _ _).2⟩
  ·cases hw
theorem RH(L:Ac)(E:Af):(fs L E).length<=3:=by
 unfold fs;split <;> split <;> split <;> simp
theorem YT:∀ l:List AcP,(∀ w,w∈l->w.length<=5)->(jn l).length<=l.length * 6
 | [],_=>by simp[Ru]
 | [x],h=>by rw[CX];have:=h x (by simp);simp;omega
 | x::y::r,h=>by
  have ih:=YT (y::r) (fun w hw=>h w (xE _ hw));have hx:=h x (by simp);have:jn (x::y::r)=x++32::jn (y::r):=by
   unfold jn;rw[Go.Lib.join_cons,Go.Lib.join_cons];unfold Go.Lib.joinTail;simp
  rw[this,xD,xH,xH (a:=x)];omega
theorem Aa0{L:Ac}{E:Af}(h:OkE L E):(jn (fs L E)).length<=18:=by
 have:=YT (fs L E) (fun w hw=>(Mv h w hw).1);have:=RH L E;omega
theorem AbU{l:List AcP}(h:∀ w,w∈l->1<=w.length):jn l=[] ↔ l=[]:=by
 constructor
 ·intro hj
  match l,h,hj with
  | [],_,_=>rfl
  | x::r,h,hj=>
   exfalso;unfold jn at hj;rw[Go.Lib.join_cons]at hj;have:=h x (by simp);rw[List.append_eq_nil_iff]at hj;rw[hj.1]at this;exact absurd this (by decide)
 ·rintro rfl;rfl
theorem Abd{n:Int}{k:Nat}(h0:0<=n)(h1:n<=1000000000)(hk:k<=100):CH N n (k:Int)=some (dP k n.toNat):=by
 obtain⟨u,rfl⟩:∃ u:Nat,n=u:=⟨n.toNat,by omega⟩;exact Rj u k (by omega) hk
theorem AbG{n:Int}{k:Nat}(h0:0<=n)(h1:n<=1000000000)(hk:k<=100)(G:1<=k)(hN:4294967300 < N):Bi N n (k:Int)=some (dP k n.toNat):=by
 obtain⟨u,rfl⟩:∃ u:Nat,n=u:=⟨n.toNat,by omega⟩;exact Mr u k (by omega) hk G hN
def IW(L:Ac)(E:Af)(i:Nat):List AcP:=if i=0 then(if L.Report=true then[dP 1 E.Report.toNat]else[])else if i=1 then(if L.Serial=true then[dP 3 E.Serial.toNat]else[])else(if L.Zone=true then[dP 2 E.Zone.toNat]else[])
theorem Za(L:Ac)(E:Af):cat 3 (IW L E)=fs L E:=by
 rw[HT,HT,HT];unfold fs;rw[<-yG];rfl
theorem RI(L:Ac)(E:Af)(i:Nat):(IW L E i).length<=1:=by
 unfold IW;split
 ·split <;> simp
 ·split <;> split <;> simp
theorem QT(L:Ac)(E:Af)(hN:4294967300 < N):BG N L E=some (Gj L E):=by
 unfold BG Gj;rw[QS L E hN,oS];cases hv:CR L E with
 | false=>rfl
 | true=>
  have ok:=okE hv;obtain⟨O,Y,Z⟩:=ok.le;rw[xO,cF,if_pos rfl];unfold D7;rw[oS];generalize hP:([_,_,_]:List AZ)=P;have hstep:∀(i:Nat)(s:List AcP),i < 3->s.length + 1<=0 + 3 * 1->CM N L E true P (s,(i:Int))=some (.next (s++IW L E i,((i + 1:Nat):Int))):=by
   intro i s hi hs;have p1:CH N E.Report 1=some (dP 1 E.Report.toNat):=Abd (k:=1) O.1 (by omega) (by omega);have p2:CH N E.Serial 3=some (dP 3 E.Serial.toNat):=Abd (k:=3) Y.1 (by omega) (by omega);have p3:CH N E.Zone 2=some (dP 2 E.Zone.toNat):=Abd (k:=2) Z.1 (by omega) (by omega);have ha:∀ w:AcP,CD s [w]=some (s++[w]):=fun w=>K1 (by simp;omega);unfold CM;subst hP;simp only;rw[Cx i (by omega)]
   match i,hi with
   | 0,_=>
    show((bif L.Report then((CH N E.Report 1).bind fun G=>((CD s [G]).bind fun I=>some I))else some s).bind fun J=>some (A2.next (J,_)))=_;rw[p1,oS,ha];unfold IW;cases L.Report <;> simp
   | 1,_=>
    show((bif L.Serial then((CH N E.Serial 3).bind fun G=>((CD s [G]).bind fun I=>some I))else some s).bind fun J=>some (A2.next (J,_)))=_;rw[p2,oS,ha];unfold IW;cases L.Serial <;> simp
   | 2,_=>
    show((bif L.Zone then((CH N E.Zone 2).bind fun G=>((CD s [G]).bind fun I=>some I))else some s).bind fun J=>some (A2.next (J,_)))=_;rw[p3,oS,ha];unfold IW;cases L.Zone <;> simp
  have hend:∀ s:List AcP,CM N L E true P (s,((3:Nat):Int))=some (.done (s,((3:Nat):Int))):=by
   intro s;subst hP;rfl
  rw[XD (n:=3) 1 (IW L E) (fun i _=>RI L E i) (s0:=[]) hstep hend (by omega),Za];simp only[zQ,oS,A2.k];have hj:=Aa0 ok;have hl:=RH L E;have e1:strings_Join N (fs L E) [32]=some (jn (fs L E)):=by
   unfold strings_Join;exact if_pos ⟨by omega,by unfold jn at hj;omega⟩
  rw[e1,oS,AbS _ _ hN,oS];unfold Gx;have:=AbU (fun w hw=>(Mv ok w hw).2.2);by_cases hf:fs L E=[]
  ·rw[if_pos hf,if_pos (this.2 hf)]
  ·rw[if_neg hf,if_neg (fun h=>hf (this.1 h))]
theorem OR(L:Ac)(E:Af)(hN:4294967300 < N):Bg N L E=some (Gj L E):=by
 unfold Bg Gj;rw[OQ L E,oS];cases hv:CR L E with
 | false=>rfl
 | true=>
  have ok:=okE hv;obtain⟨I,G,J⟩:=ok.le;rw[xO,cF,if_pos rfl];have p1:Bi N E.Report 1=some (dP 1 E.Report.toNat):=AbG (k:=1) I.1 (by omega) (by omega) (by omega) hN;have O:Bi N E.Serial 3=some (dP 3 E.Serial.toNat):=AbG (k:=3) G.1 (by omega) (by omega) (by omega) hN;have Y:Bi N E.Zone 2=some (dP 2 E.Zone.toNat):=AbG (k:=2) J.1 (by omega) (by omega) (by omega) hN;rw[p1,O,Y];simp only[oS];have Z:(bif L.Report then((CD ([]:List AcP) [dP 1 E.Report.toNat]).bind fun h0=>some h0)else some ([]:List AcP))=some (IW L E 0):=by
   unfold IW;cases L.Report <;> rfl
  have l0:=RI L E 0;have l1:=RI L E 1;have e2:(bif L.Serial then((CD (IW L E 0) [dP 3 E.Serial.toNat]).bind fun h4=>some h4)else some (IW L E 0))=some (IW L E 0++IW L E 1):=by
   rw[K1 (by simp;omega)];have:IW L E 1=if L.Serial=true then[dP 3 E.Serial.toNat]else[]:=rfl
   rw[this];cases L.Serial <;> simp
  have e3:(bif L.Zone then((CD (IW L E 0++IW L E 1) [dP 2 E.Zone.toNat]).bind fun h5=>some h5)else some (IW L E 0++IW L E 1))=some (fs L E):=by
   rw[K1 (by simp;omega)];have G:IW L E 2=if L.Zone=true then[dP 2 E.Zone.toNat]else[]:=rfl
   have:fs L E=IW L E 0++IW L E 1++IW L E 2:=by rw[<-Za,HT,HT,HT];rfl
   rw[this,G];cases L.Zone <;> simp
  rw[Z,oS,e2,oS,e3,oS];have hl:=RH L E;rw[Aaf (by omega) (fun w hw=>by have:=(Mv ok w hw).1;omega) hN];unfold Gx;by_cases hf:fs L E=[]
  ·rw[if_pos hf,hf];rfl
  ·rw[if_neg hf];have:(((fs L E).length:Int)==0)=false:=by
    rw[beq_eq_false_iff_ne];have:=zJ.2 hf;omega
   rw[this];rfl
def GH(h:Bool)(ws:List AcP):List AcP×Int:=match h,ws with
 | true,w::r=>(r,Dj w)
 | _,_=>(ws,0)
def H1(L:Ac)(ws:List AcP):Af:={Report:=(GH L.Report ws).2,Serial:=(GH L.Serial (GH L.Report ws).1).2,Zone:=(GH L.Zone (GH L.Serial (GH L.Report ws).1).1).2}
def A6(L:Ac)(s:AcP):Af×Int:=if Gj L (H1 L (pcs 32 s))=(s,0)then(H1 L (pcs 32 s),0)else({Report:=0,Serial:=0,Zone:=0},1)
theorem SY(h:Bool)(ws:List AcP):∀ w,w∈(GH h ws).1->w∈ws:=by
 intro w hw
 match h,ws,hw with
 | true,x::r,hw=>exact xE _ hw
 | true,[],hw=>exact hw
 | false,_,hw=>exact hw
theorem QL(h:Bool)(ws:List AcP)(hl:∀ w,w∈ws->w.length < N):(bif(h&&decide ((ws.length:Int) > 0))then((idx ws 0).bind fun G=>((Df N G).bind fun I=>((sub ws 1 (ws.length:Int)).bind fun J=>some (J,I))))else some (ws,(0:Int)))=some (GH h ws):=by
 match h,ws,hl with
 | false,_,_=>rfl
 | true,[],_=>rfl
 | true,w::r,hl=>
  have O:idx (w::r) 0=some w:=rfl;have Y:sub (w::r) 1 ((w::r).length:Int)=some r:=by
   unfold sub;rw[if_pos ⟨by omega,by simp only[xH];omega,by omega⟩];simp
  rw[decide_eq_true (by simp only[xH];omega),O,Y,oS,Rk (hl w (by simp))];rfl
theorem QK(h:Bool)(ws:List AcP)(k:Nat)(hk:k < 4000000000)(hl:∀ w,w∈ws->w.length < N):∃ k',(bif(h&&decide ((k:Int) < (ws.length:Int)))then((idx ws (k:Int)).bind fun I=>((BD N I).bind fun J=>some ((W64 ((k:Int) + 1)),J)))else some ((k:Int),(0:Int)))=some (((k':Nat):Int),(GH h (ws.drop k)).2)/\(GH h (ws.drop k)).1=ws.drop k'/\k'<=k + 1:=by
 by_cases hh:h=true/\k < ws.length
 ·obtain⟨rfl,hh⟩:=hh;refine⟨k + 1,?_,?_,xM _⟩
  ·rw[BB hh,AX hh,oS,O1 (hl _ (xT hh)),Cx k (by omega),xX hh];rfl
  ·rw[xX hh];rfl
 ·refine⟨k,?_,?_,by omega⟩
  ·cases h with
   | false=>rfl
   | true=>
    have hk:ws.length<=k:=by
     rcases xR k ws.length with G | G
     ·exact absurd ⟨rfl,G⟩ hh
     ·exact G
    rw[decide_eq_false (by omega),List.drop_of_length_le hk];rfl
  ·cases h with
   | false=>rfl
   | true=>
    have hk:ws.length<=k:=by
     rcases xR k ws.length with G | G
     ·exact absurd ⟨rfl,G⟩ hh
     ·exact G
    rw[List.drop_of_length_le hk];rfl
theorem X7(L:Ac)(s:AcP)(hs:s.length < 4294967281)(hN:4294967300 < N):Gu N L s=some (A6 L s):=by
 unfold Gu A6;rw[N7 32 hs,oS];have hle:=Q7 32 s;generalize pcs 32 s=ws at hle;have hn:∀ w,w∈ws->w.length < N:=fun w hw=>by have:=hle w hw;omega
 have O:∀(E:Af)(b:Bool),((D7 N L E).bind fun G=>((idx G 0).bind fun I=>(bif I.has_ then some b else some false)))=some (L.Report&&b):=by
  intro E b;show(bif L.Report then some b else some false)=_;cases L.Report <;> rfl
 have Y:∀(E:Af)(b:Bool),((D7 N L E).bind fun G=>((idx G 1).bind fun I=>(bif I.has_ then some b else some false)))=some (L.Serial&&b):=by
  intro E b;show(bif L.Serial then some b else some false)=_;cases L.Serial <;> rfl
 have c2:∀(E:Af)(b:Bool),((D7 N L E).bind fun G=>((idx G 2).bind fun I=>(bif I.has_ then some b else some false)))=some (L.Zone&&b):=by
  intro E b;show(bif L.Zone then some b else some false)=_;cases L.Zone <;> rfl
 rw[O,oS,QL L.Report ws hn,oS,Y,oS];have J:∀ w,w∈(GH L.Report ws).1->w.length < N:=fun w hw=>hn w (SY _ _ w hw);rw[QL L.Serial _ J,oS,c2,oS];have Z:∀ w,w∈(GH L.Serial (GH L.Report ws).1).1->w.length < N:=fun w hw=>J w (SY _ _ w hw);rw[QL L.Zone _ Z,oS];show((BG N L (H1 L ws)).bind _)=_;rw[QT L _ hN,oS,TH];show(bif(!decide (Gj L (H1 L ws)=(s,0)))then _ else some (H1 L ws,(0:Int)))=_;by_cases h:Gj L (H1 L ws)=(s,0)
 ·rw[decide_eq_true h,if_pos h];rfl
 ·rw[decide_eq_false h,if_neg h];rfl
theorem VO{L:Ac}{E:Af}{s:AcP}(h:Gj L E=(s,0)):s.length<=18/\CR L E=true:=by
 unfold Gj at h;by_cases hv:CR L E=true
 ·rw[if_pos hv]at h;injection h with h _
  refine⟨?_,hv⟩;rw[<-h];unfold Gx;split
  ·simp
  ·exact Aa0 (okE hv)
 ·rw[if_neg hv]at h;injection h with _ h
  exact absurd h (by decide)
theorem S1(L:Ac)(s:AcP)(hs:s.length < 4294967281)(hN:4294967300 < N):CT N L s=some (A6 L s):=by
 unfold CT A6;by_cases h3:s.length<=100
 ·rw[decide_eq_false (by omega),cF,UR s (by omega) (by omega),oS];have hle:=Q7 32 s;generalize pcs 32 s=ws at hle;have hn:∀ w,w∈ws->w.length < N:=fun w hw=>by have:=hle w hw;omega
  obtain⟨I,Y,J,d1⟩:=QK L.Report ws 0 (by omega) hn;have a1':(bif(L.Report&&(decide (0 < (ws.length:Int))))then((idx ws 0).bind fun Z=>((BD N Z).bind fun h0=>some ((W64 (0 + 1)),h0)))else some (0,0))=some (((I:Nat):Int),(GH L.Report (ws.drop 0)).2):=Y;rw[a1',oS];simp only;obtain⟨G,a2,O,d2⟩:=QK L.Serial ws I (by omega) hn;rw[a2,oS];simp only;obtain⟨k3,a3,b3,d3⟩:=QK L.Zone ws G (by omega) hn;have a3':(bif(L.Zone&&(decide ((G:Int) < (ws.length:Int))))then((idx ws (G:Int)).bind fun h1=>((BD N h1).bind fun h2=>some h2))else some 0)=some (GH L.Zone (ws.drop G)).2:=by
   have:=congrArg (fun o=>o.bind fun(x:Int×Int)=>some x.2) a3;simp only[oS]at this;rw[<-this];cases hc:(L.Zone&&(decide ((G:Int) < (ws.length:Int))))with
   | false=>rfl
   | true=>
    rw[cT,cT];cases idx ws (G:Int)with
    | none=>rfl
    | some x=>cases h:BD N x <;> simp[h]
  rw[a3',oS];rw[vZ]at J ⊢;rw[<-J]at O ⊢;rw[<-O];show((Bg N L (H1 L ws)).bind _)=_;rw[OR L _ hN,oS,TH];show(bif(!decide (Gj L (H1 L ws)=(s,0)))then _ else some (H1 L ws,(0:Int)))=_;by_cases h:Gj L (H1 L ws)=(s,0)
  ·rw[decide_eq_true h,if_pos h];rfl
  ·rw[decide_eq_false h,if_neg h];rfl
 ·rw[decide_eq_true (by omega),cT];rw[if_neg (fun h=>by have:=VO h;omega)]
end
theorem TJ{k u:Nat}(hk:k<=9)(hu:u < 100000):Dj (dP k u)=(u:Int):=by
 have h1:=LR (k:=k) (j:=4) (u:=u) (by omega);have h2:=O8 k u;have:Gm (dP k u)=true:=by
  unfold Gm wiB;rw[JM];simp;omega
 unfold Dj;rw[if_pos this,V8]
theorem GB{L:Ac}{E:Af}(h:CR L E=true):A6 L (Gx L E)=(E,0):=by
 have ok:=okE h;obtain⟨h1,h2,h3⟩:=ok.le;have hw:H1 L (pcs 32 (Gx L E))=E:=by
  have G:=TJ (k:=1) (u:=E.Report.toNat) (by omega) (by omega);have I:=TJ (k:=3) (u:=E.Serial.toNat) (by omega) (by omega);have J:=TJ (k:=2) (u:=E.Zone.toNat) (by omega) (by omega);have hp:fs L E≠[]->pcs 32 (Gx L E)=fs L E:=by
   intro hf;unfold Gx;rw[if_neg hf];have hno:=fun w hw=>no32 (Mv ok w hw).2.1
   revert hf hno
   generalize fs L E=l;intro hf hno
   match l,hf,hno with
   | x::r,_,hno=>exact VR r x (hno x (by simp)) (fun y hy=>hno y (by simp[hy]))
  obtain⟨R,S,Z⟩:=L;obtain⟨a,b,c⟩:=E;obtain⟨o1,O,Y⟩:=ok;simp only at o1 O Y h1 h2 h3 G I J;rw[zK h1.1]at G;rw[zK h2.1]at I;rw[zK h3.1]at J;unfold H1;cases R <;> cases S <;> cases Z <;> simp only[xU,if_false,if_true]at o1 O Y
  ·subst o1;subst O;subst Y;rfl
  all_goals
   rw[hp (by unfold fs;simp)];unfold fs;simp[GH,G,I,J, *]
 unfold A6;rw[hw];have:Gj L E=(Gx L E,0):=by unfold Gj;rw[if_pos h]
 rw[if_pos this]
end
theorem XV{s:AcP}(h:DJ s=true):1<=s.length/\s.length<=4:=by
 unfold DJ wiB at h;simp only[xB,decide_eq_true_eq]at h;omega
theorem Un{s:AcP}(h:B5 s=true):1<=s.length/\s.length<=4:=by
 unfold B5 wiB at h;simp only[xB,yP,decide_eq_true_eq]at h;omega
theorem AaM{s:AcP}(h:DJ s=true):s.all isE=true:=by
 unfold DJ at h;simp only[xB]at h;exact h.1.1
theorem W4{s:AcP}(h:Bu s=true):s.all isE=true:=by
 unfold Bu at h;simp only[xB]at h;exact h.1.1.1
theorem Xd{s:AcP}(h:B5 s=true):s.all isE=true:=by
 unfold B5 at h;simp only[xB,yP]at h;rw[xN];intro b hb;unfold isE;rcases h with h | h
 ·rw[xN.1 h.1 b hb];rfl
 ·rw[xN.1 h.1 b hb];simp
def PE(t:Tri):AcP:=(if t.1=[]then t.2.1 else t.1++47::t.2.1)++(if t.2.2=[]then[]else 47::t.2.2)
def okT(t:Tri):Bool:=(decide (t.1=[])||DJ t.1)&&Bu t.2.1&&(decide (t.2.2=[])||B5 t.2.2)&&(decide (t.1=[])|| !decide (t.2.2=[])||decide (t.1.length < t.2.1.length))&&decide ((PE t).length<=16)
theorem Vl{s:AcP}(h:DJ s=true):s≠[]:=by
 rintro rfl;have:=XV h;simp at this
theorem Nc{s:AcP}(h:B5 s=true):s≠[]:=by
 rintro rfl;have:=Un h;simp at this
theorem Aa6(w:AcP):J1 [w]=if Bu w then some ([],w,[])else none:=rfl
theorem Aa5(a b:AcP):J1 [a,b]=if(DJ a&&Bu b&&decide (a.length < b.length))=true then some (a,b,[])else if(Bu a&&B5 b)=true then some ([],a,b)else none:=rfl
theorem Aa4(a b c:AcP):J1 [a,b,c]=if(DJ a&&Bu b&&B5 c)=true then some (a,b,c)else none:=rfl
theorem Wb{s:AcP}{t:Tri}(h:callB s=some t):okT t=true/\s=PE t:=by
 unfold callB at h;by_cases hl:s.length<=16
 ·rw[if_pos hl]at h;have hj:=Q8 47 s
  suffices hh:s=PE t/\((decide (t.1=[])||DJ t.1)&&Bu t.2.1&&(decide (t.2.2=[])||B5 t.2.2)&&(decide (t.1=[])|| !decide (t.2.2=[])||decide (t.1.length < t.2.1.length)))=true by
   refine⟨?_,hh.1⟩;unfold okT;rw[hh.2,<-hh.1,decide_eq_true hl];rfl
  revert h hj
  generalize pcs 47 s=ws;intro h hj
  match ws,h,hj with
  | [w],h,hj=>
   rw[Aa6]at h;cases hb:Bu w with
   | false=>rw[hb]at h;simp at h
   | true=>
    rw[hb]at h;simp at h;subst h;have:w=s:=by simpa [List.intercalate]using hj
    exact⟨by simp[PE,this],by simp[hb]⟩
  | [a,b],h,hj=>
   have hj':a++47::b=s:=by simpa [List.intercalate]using hj
   rw[Aa5]at h;by_cases G:(DJ a&&Bu b&&decide (a.length < b.length))=true
   ·rw[if_pos G]at h;simp at h;subst h;simp only[xB,decide_eq_true_eq]at G;exact⟨by simp[PE,hj',Vl G.1.1],by simp[G]⟩
   ·rw[if_neg G]at h;by_cases I:(Bu a&&B5 b)=true
    ·rw[if_pos I]at h;simp at h;subst h;simp only[xB]at I;exact⟨by simp[PE,hj',Nc I.2],by simp[I]⟩
    ·rw[if_neg I]at h;cases h
  | [a,b,c],h,hj=>
   have hj':a++47::(b++47::c)=s:=by simpa [List.intercalate]using hj
   rw[Aa4]at h;by_cases G:(DJ a&&Bu b&&B5 c)=true
   ·rw[if_pos G]at h;simp at h;subst h;simp only[xB]at G;refine⟨?_,?_⟩
    ·rw[<-hj'];simp[PE,Vl G.1.1,Nc G.2]
    ·simp[G,Nc G.2]
   ·rw[if_neg G]at h;cases h
  | [],h,_=>cases h
  | _::_::_::_::_,h,_=>cases h
 ·rw[if_neg hl]at h;cases h
def Gg(s:AcP):Bool:=(callB s).isSome
section
variable {N:Nat}
theorem ZI(s:AcP)(hN:4294967300 < N):Jc N s=some (Gg s):=by
 unfold Jc Gg;rw[Aag s hN,oS];unfold Vt;cases callB s <;> rfl
theorem X6(s:AcP)(hN:4294967300 < N):Ey N s=some (Gg s):=by
 unfold Ey Gg;rw[Yy s hN,oS];unfold Aa8;cases callB s <;> rfl
end
def HA(_N:Nat)(s:AcP):Option Bool:=some (Gg s)
theorem Hj:Ai Tryz.prog 79:=(cO 79)
theorem Ib(N:Nat)(w0:World)(F0:Mem)(hF:AcR w0 F0)(hG:BH F0)(G:AcP)(r:Bool)(h:HA N G=some r):
  Calls Tryz.prog 79 ([.string ⟨(G).toArray⟩]:List Value).toArray w0 (AD w0 F0 fun F' v=>v=(.bool r)):=by
 exact Pm 9223372036854775808 w0 F0 hF hG G r ((ZI G (by decide)).trans h)
def HB(_N:Nat)(s:AcP):Option (Int×Int):=if s.length < 4294967281 then some (FH s)else none
theorem Pg:Ai Tryz.prog 96:=(cO 96)
theorem Qo(N:Nat)(w0:World)(F0:Mem)(hF:AcR w0 F0)(hG:BH F0)(G:AcP)(r:(Int×Int))(h:HB N G=some r):
  Calls Tryz.prog 96 ([.string ⟨(G).toArray⟩]:List Value).toArray w0 (AD w0 F0 fun F' v=>v=(.tuple #[.int .i64 r.1,.int .i64 r.2])):=by
 unfold HB at h;split at h
 ·rename_i hs;exact Pn 9223372036854775808 w0 F0 hF hG G r ((Us G hs (by decide)).trans h)
 ·cases h
def DK(_N:Nat)(L:Ac)(s:AcP):Option (Af×Int):=if s.length < 4294967281 then some (A6 L s)else none
theorem Cb:Ai Tryz.prog 97:=(cO 97)
theorem Cs(N:Nat)(w0:World)(F0:Mem)(hF:AcR w0 F0)(hG:BH F0)(G:Ac)(I:AcP)(r:(Af×Int))(h:DK N G I=some r):
  Calls Tryz.prog 97 ([.agg #[.bool G.Report,.bool G.Serial,.bool G.Zone],.string ⟨(I).toArray⟩]:List Value).toArray w0 (AD w0 F0 fun F' v=>v=(.tuple #[.agg #[.int .i64 r.1.Report,.int .i64 r.1.Serial,.int .i64 r.1.Zone],.int .i64 r.2])):=by
 unfold DK at h;split at h
 ·rename_i hs;exact Md 9223372036854775808 w0 F0 hF hG G I r ((X7 G I hs (by decide)).trans h)
 ·cases h
section
theorem DG{r:List AcP}(h:r≠[])(x:AcP):jn (x::r)=x++32::jn r:=by
 match r,h with
 | y::r,_=>
  unfold jn;rw[Go.Lib.join_cons,Go.Lib.join_cons];unfold Go.Lib.joinTail;simp
theorem V1:∀{a b:List AcP},a≠[]->b≠[]->jn (a++b)=jn a++32::jn b
 | [],_,h,_=>absurd rfl h
 | [x],b,_,hb=>by rw[List.singleton_append,DG hb,CX]
 | x::y::a,b,_,hb=>by
  rw[zS,DG (by simp),DG (by simp),V1 (by simp) hb];simp
theorem WR:∀{L:List (List AcP)},(∀ l,l∈L->l≠[])->jn (L.map jn)=jn L.flatten
 | [],_=>rfl
 | [l],_=>by simp[CX]
 | l::m::L,h=>by
  have ih:=WR (L:=m::L) (fun x hx=>h x (xE _ hx));have hm:(m::L).flatten≠[]:=by
   have:=h m (by simp);simp[this]
  rw[yH,DG (by simp),ih,List.flatten_cons (l:=l),V1 (h l (by simp)) hm]
theorem WB{l:List AcP}(hn:l≠[])(h:∀ w,w∈l->(32:UInt8)∉w):pcs 32 (jn l)=l:=by
 cases l with
 | nil=>exact absurd rfl hn
 | cons x r=>exact VR r x (h x (by simp)) fun y hy=>h y (by simp[hy])
theorem V0(s:AcP):jn (pcs 32 s)=s:=by
 have:∀(l:List AcP),l≠[]->jn l=[32].intercalate l:=by
  intro l
  induction l with
  | nil=>intro h;exact absurd rfl h
  | cons x r ih=>
   intro _;cases r with
   | nil=>rw[CX];simp[List.intercalate]
   | cons y r=>
    rw[DG (by simp),ih (by simp)];simp[List.intercalate,List.intersperse]
 rw[this _ (IL 32 s),Q8]
def Qj(b:UInt8):Bool:=isL b||isD b||b==47
def H6(s:AcP):Bool:=wiB s.length 1 16&&s.all Qj
def Cy(o:Ac)(x:Line):Bool:=decide (1<=x.Num/\x.Num<=65535)&&(decide (1<=x.Khz/\x.Khz<=10000000)&&(decide (1<=x.Mode/\x.Mode<=3)&&(decide (0<=x.Minute/\x.Minute<=20000)&&(H6 x.Call&&(CR o x.Sent&&CR o x.Got)))))
structure OkL(o:Ac)(x:Line):Prop where
 n:1<=x.Num/\x.Num<=65535
 k:1<=x.Khz/\x.Khz<=10000000
 m:1<=x.Mode/\x.Mode<=3
 t:0<=x.Minute/\x.Minute<=20000
 c:H6 x.Call=true
 s:CR o x.Sent=true
 g:CR o x.Got=true
theorem Ca{o:Ac}{x:Line}:Cy o x=true ↔ OkL o x:=by
 unfold Cy;simp only[xB,decide_eq_true_eq];exact⟨fun⟨a,b,c,d,e,f,g⟩=>⟨a,b,c,d,e,f,g⟩,fun h=>⟨h.n,h.k,h.m,h.t,h.c,h.s,h.g⟩⟩
def D9(m:Int):AcP:=if m=1 then[77]else if m=2 then[86]else[68]
def fsw(o:Ac)(E:Af):List AcP:=if fs o E=[]then[[45]]else fs o E
def tW(u:Nat):List AcP:=[decDigits (u / 1440 + 1),dP 2 (u / 60 % 24)++dP 2 (u % 60)]
def QSO:AcP:=[81,83,79]
def Jx(x:Line):List AcP:=[QSO,decDigits x.Num.toNat,decDigits x.Khz.toNat,D9 x.Mode]++tW x.Minute.toNat++[x.Call,[62]]
def FF(o:Ac)(x:Line):List AcP:=Jx x++(fsw o x.Sent++[60]::fsw o x.Got)
def Bq(o:Ac)(x:Line):AcP:=jn (FF o x)
theorem Um(u:Nat):Gy u=jn (tW u):=by unfold Gy tW;rw[DG (by simp),CX]
theorem IC(o:Ac)(E:Af):Gx o E=jn (fsw o E):=by
 unfold Gx fsw;split
 ·rw[CX]
 ·rfl
theorem Aby(o:Ac)(E:Af):fsw o E≠[]:=by
 unfold fsw;split
 ·simp
 ·assumption
theorem Tg(o:Ac)(x:Line):jn [QSO,decDigits x.Num.toNat,decDigits x.Khz.toNat,D9 x.Mode,Gy x.Minute.toNat,x.Call,[62],Gx o x.Sent,[60],Gx o x.Got]=Bq o x:=by
 have h:=WR (L:=[[QSO],[decDigits x.Num.toNat],[decDigits x.Khz.toNat],[D9 x.Mode],tW x.Minute.toNat,[x.Call],[[62]],fsw o x.Sent,[[60]],fsw o x.Got]) (by
  intro l hl;simp only[xJ,yQ,or_false]at hl;rcases hl with rfl | rfl | rfl | rfl | rfl | rfl | rfl | rfl | rfl | rfl
  all_goals first | exact Aby _ _ | simp[tW])
 simp only[yH,zW,CX,<-Um,<-IC]at h;rw[h];unfold Bq FF Jx;simp
theorem IV{o:Ac}{E:Af}(h:CR o E=true):∀ w,w∈fsw o E->(32:UInt8)∉w/\w≠[60]/\w≠[62]/\w.length<=5:=by
 intro w hw;unfold fsw at hw;split at hw
 ·simp at hw;subst hw;decide
 ·obtain⟨I,G,h3⟩:=Mv (okE h) w hw;refine⟨no32 G,?_,?_,I⟩
  ·rintro rfl;revert G;decide
  ·rintro rfl;revert G;decide
theorem Nq{s:AcP}(h:H6 s=true):(32:UInt8)∉s/\s≠[60]/\s≠[62]/\1<=s.length/\s.length<=16:=by
 unfold H6 wiB at h;simp only[xB,decide_eq_true_eq]at h;obtain⟨⟨I,J⟩,G⟩:=h;rw[xN]at G;refine⟨fun hm=>?_,?_,?_,I,J⟩
 ·have:=G _ hm;revert this;decide
 ·rintro rfl;have:=G 60 (by simp);revert this;decide
 ·rintro rfl;have:=G 62 (by simp);revert this;decide
theorem XA(m:Int):(32:UInt8)∉D9 m/\D9 m≠[60]:=by
 unfold D9;split
 ·decide
 ·split <;> decide
theorem TX(u:Nat):(32:UInt8)∉decDigits u/\decDigits u≠[60]:=by
 refine⟨no32 (KJ u),fun h=>?_⟩;have:=KJ u;rw[h]at this;revert this;decide
theorem O5{o:Ac}{x:Line}(h:OkL o x):∀ w,w∈Jx x->(32:UInt8)∉w/\w≠[60]:=by
 intro w hw;have hc:=Nq h.c;have hall:(dP 2 (x.Minute.toNat / 60 % 24)++dP 2 (x.Minute.toNat % 60)).all isD=true:=by rw[zB,JM,JM];rfl
 unfold Jx tW at hw;simp only[yF,xJ,yQ,or_false]at hw;rcases hw with((rfl | rfl | rfl | rfl) | (rfl | rfl)) | (rfl | rfl)
 ·decide
 ·exact TX _
 ·exact TX _
 ·exact XA _
 ·exact TX _
 ·refine⟨no32 hall,fun e=>?_⟩;rw[e]at hall;revert hall;decide
 ·exact⟨hc.1,hc.2.1⟩
 ·decide
theorem Gn{o:Ac}{x:Line}(h:OkL o x):pcs 32 (Bq o x)=FF o x:=by
 refine WB (by unfold FF Jx;simp) fun w hw=>?_;unfold FF at hw;simp only[yF,xJ]at hw;rcases hw with hw | hw | rfl | hw
 ·exact(O5 h w hw).1
 ·exact(IV h.s w hw).1
 ·decide
 ·exact(IV h.g w hw).1
theorem Kf(x:Line):(Jx x).length=8:=rfl
theorem AaZ:∀(l:List AcP)(k:Nat),(∀ w,w∈l->w.length<=k)->(jn l).length<=l.length * (k + 1)
 | [],k,_=>by simp[Ru]
 | [x],k,h=>by have:=h x (by simp);rw[CX];simp;omega
 | x::y::r,k,h=>by
  have:=h x (by simp);have:=AaZ (y::r) k fun w hw=>h w (xE _ hw);rw[DG (by simp),xD,xH,xH,zT];omega
theorem UV{o:Ac}{x:Line}(h:OkL o x):(Bq o x).length<=300:=by
 have hc:=Nq h.c;obtain⟨n1,n2⟩:=h.n;obtain⟨k1,k2⟩:=h.k;have hw:∀ w,w∈FF o x->w.length<=16:=by
  intro w hw;have d1:=JL 4 x.Num.toNat (by omega);have d2:=JL 7 x.Khz.toNat (by omega);have d3:=Oj (u:=x.Minute.toNat / 1440 + 1) (by have:=h.t;omega);have d4:=Hs (u:=x.Minute.toNat / 60 % 24) (by omega);have d5:=Hs (u:=x.Minute.toNat % 60) (by omega);unfold FF Jx tW at hw;simp only[yF,xJ,yQ,or_false]at hw;rcases hw with(((rfl | rfl | rfl | rfl) | (rfl | rfl)) | (rfl | rfl)) | hw | rfl | hw
  ·decide
  ·omega
  ·omega
  ·unfold D9;split
   ·decide
   ·split <;> decide
  ·omega
  ·rw[xD];omega
  ·omega
  ·decide
  ·have:=(IV h.s w hw).2.2.2;omega
  ·decide
  ·have:=(IV h.g w hw).2.2.2;omega
 have hl:(FF o x).length<=16:=by
  have G:=RH o x.Sent;have I:=RH o x.Got;have f:∀ E,(fs o E).length<=3->(fsw o E).length<=3:=fun E hE=>by
   unfold fsw;split
   ·simp
   ·exact hE
  have:=f _ G;have:=f _ I;unfold FF;rw[xD,Kf,xD,xH];omega
 have:=AaZ _ 16 hw;have:(FF o x).length * 17<=16 * 17:=xY _ hl;unfold Bq;omega
noncomputable def JH(o:Ac)(s:AcP):Option Line:=@dite _ (∃ x,Cy o x=true/\Bq o x=s) (Classical.propDecidable _) (fun h=>some (Classical.choose h)) (fun _=>none)
theorem Mx{a b:Int}(ha:0<=a)(hb:0<=b)(h:decDigits a.toNat=decDigits b.toNat):a=b:=by
 have:=Nu a.toNat;rw[h,Nu]at this;omega
theorem YK{a b:Int}(ha:1<=a/\a<=3)(hb:1<=b/\b<=3)(h:D9 a=D9 b):a=b:=by
 have G:a=1\/a=2\/a=3:=by omega
 have I:b=1\/b=2\/b=3:=by omega
 rcases G with rfl | rfl | rfl <;> rcases I with rfl | rfl | rfl <;> first | rfl | exact absurd h (by decide)
theorem WW{o:Ac}{E G:Af}(hE:CR o E=true)(hG:CR o G=true)(h:fsw o E=fsw o G):E=G:=by
 have e:Gx o E=Gx o G:=by rw[IC,IC,h]
 have I:=GB hE;rw[e,GB hG]at I;exact(congrArg Prod.fst I).symm
theorem QO{a b c d:List AcP}(ha:∀ w,w∈a->w≠[60])(hc:∀ w,w∈c->w≠[60])(h:a++[60]::b=c++[60]::d):a=c/\b=d:=by
 induction a generalizing c with
 | nil=>
  cases c with
  | nil=>simp at h;exact⟨rfl,h⟩
  | cons y c=>simp at h;exact absurd h.1.symm (hc y (by simp))
 | cons x a ih=>
  cases c with
  | nil=>simp at h;exact absurd h.1 (ha x (by simp))
  | cons y c=>
   simp only[zS,wE]at h;obtain⟨G,I⟩:=ih (fun w hw=>ha w (by simp[hw])) (fun w hw=>hc w (by simp[hw])) h.2;exact⟨by rw[h.1,G],I⟩
theorem YJ{o:Ac}{x y:Line}(hx:OkL o x)(hy:OkL o y)(h:Bq o x=Bq o y):x=y:=by
 have hw:FF o x=FF o y:=by rw[<-Gn hx,<-Gn hy,h]
 unfold FF at hw;obtain⟨G,I⟩:=List.append_inj hw rfl;obtain⟨h3,h4⟩:=QO (fun w hw=>(IV hx.s w hw).2.1) (fun w hw=>(IV hy.s w hw).2.1) I;unfold Jx tW at G;simp only[zS,zQ,wE,and_true,true_and]at G;obtain⟨e1,e2,e3,e4,e5,J⟩:=G;have t:x.Minute=y.Minute:=by
  have G:Gy x.Minute.toNat=Gy y.Minute.toNat:=by unfold Gy;rw[e4,e5]
  have I:=KC (u:=x.Minute.toNat) (by have:=hx.t;omega);rw[G,KC (u:=y.Minute.toNat) (by have:=hy.t;omega)]at I;have:=congrArg Prod.fst I;simp only at this;have:=hx.t;have:=hy.t;omega
 have O:=Mx (by have:=hx.n;omega) (by have:=hy.n;omega) e1;have a2:=Mx (by have:=hx.k;omega) (by have:=hy.k;omega) e2;have Y:=YK hx.m hy.m e3;have Z:=WW hx.s hy.s h3;have a5:=WW hx.g hy.g h4;cases x;cases y;simp only at O a2 Y Z a5 t J;subst O a2 Y Z a5 t J;rfl
theorem HH{o:Ac}{s:AcP}{x:Line}:JH o s=some x ↔ Cy o x=true/\Bq o x=s:=by
 unfold JH;constructor
 ·intro h;split at h
  ·rename_i hx;cases h;exact Classical.choose_spec hx
  ·cases h
 ·rintro⟨G,I⟩;have hex:∃ x,Cy o x=true/\Bq o x=s:=⟨x,G,I⟩;rw[dif_pos hex];have J:=Classical.choose_spec hex;rw[YJ (Ca.1 J.1) (Ca.1 G) (J.2.trans I.symm)]
theorem UG{o:Ac}{s:AcP}:JH o s=none ↔ ∀ x,Cy o x=true->Bq o x≠s:=by
 constructor
 ·intro h x hx e;rw[HH.2 ⟨hx,e⟩]at h;cases h
 ·intro h;cases hp:JH o s with
  | none=>rfl
  | some x=>exact absurd (HH.1 hp).2 (h x (HH.1 hp).1)
end
def up(b:UInt8):UInt8:=if 97<=b.toNat/\b.toNat<=122 then b - 32 else b
def wsF(b:UInt8):Bool:=b==32||(b==9||b==13)
def rfS(st:AcP×Bool)(b:UInt8):AcP×Bool:=if wsF b=true then(st.1,true)else((if st.2=true/\st.1≠[]then st.1++[32]else st.1)++[up b],false)
def CC(s:AcP):AcP:=(s.foldl rfS ([],false)).1
structure NFo(t:AcP):Prop where
 c:∀ b,b∈t->b≠9/\b≠13/\ ¬ (97<=b.toNat/\b.toNat<=122)
 w:∀ i,t[i]? =some 32->0 < i/\i + 1 < t.length/\t[i - 1]?≠some 32
theorem AaP{b:UInt8}(h:wsF b=false):up b≠9/\up b≠13/\up b≠32:=by
 have:∀ n:Fin 256,wsF (UInt8.ofNat n.val)=false->up (UInt8.ofNat n.val)≠9/\up (UInt8.ofNat n.val)≠13/\up (UInt8.ofNat n.val)≠32:=by decide
 have G:=this ⟨b.toNat,b.toNat_lt⟩;simp only[UInt8.ofNat_toNat]at G;exact G h
theorem Iz(s:AcP):(CC s).length<=s.length:=by
 have:∀(s:AcP)(st:AcP×Bool),(s.foldl rfS st).1.length + 0<=st.1.length + s.length + (if st.2=true/\st.1≠[]then 1 else 0):=by
  intro s
  induction s with
  | nil=>intro st;simp
  | cons b s ih=>
   intro st;rw[wF];have h:=ih (rfS st b);refine wH h ?_;unfold rfS;by_cases hw:wsF b=true
   ·rw[if_pos hw];simp only[xH];split <;> split <;> omega
   ·rw[if_neg hw];simp only[xD,xH,zC];by_cases hg:st.2=true/\st.1≠[]
    ·simp only[if_pos hg,xD,xH,zC,xU,false_and,if_false];omega
    ·simp only[if_neg hg,xD,xH,zC,xU,false_and,if_false];omega
 have:=this s ([],false);unfold CC
 simpa using this
theorem U7{t:AcP}(h:NFo t):CC t=t:=by
 have key:∀ k,k<=t.length->(t.take k).foldl rfS ([],false)=if 0 < k/\t[k - 1]? =some 32 then(t.take (k - 1),true)else(t.take k,false):=by
  intro k
  induction k with
  | zero=>intro _;simp
  | succ k ih=>
   intro hk;have hlt:k < t.length:=by omega
   have hc:=h.c t[k] (xT hlt);rw[List.take_succ_eq_append_getElem hlt,vJ,ih (by omega)];simp only[wF,List.foldl_nil,Nat.add_sub_cancel];rw[xA hlt];by_cases G:t[k]=32
   ·rw[if_pos (show 0 < k + 1/\some t[k]=some 32 from⟨by omega,by rw[G]⟩)];obtain⟨w1,O,I⟩:=h.w k (by rw[xA hlt,G]);rw[if_neg (by intro hh;exact I hh.2)];unfold rfS;rw[if_pos (by rw[G];rfl)]
   ·rw[if_neg (show ¬ (0 < k + 1/\some t[k]=some 32)from fun hh=>G (yC hh.2))];have hws:wsF t[k]=false:=by unfold wsF;simp[G,hc.1,hc.2.1]
    have hup:up t[k]=t[k]:=by unfold up;rw[if_neg hc.2.2]
    by_cases hp:0 < k/\t[k - 1]? =some 32
    ·rw[if_pos hp];unfold rfS;rw[if_neg (by rw[hws];decide)];obtain⟨w1,O,I⟩:=h.w (k - 1) hp.2;have hne:t.take (k - 1)≠[]:=by
      intro e;have:=congrArg List.length e;rw[xW,zC]at this;omega
     simp only;rw[if_pos ⟨trivial,hne⟩,hup];have:t.take k=t.take (k - 1)++[32]:=by
      obtain⟨j,rfl⟩:∃ j,k=j + 1:=⟨k - 1,by omega⟩;have hj:j < t.length:=by omega
      have e:=hp.2;rw[Nat.add_sub_cancel,xA hj]at e;rw[List.take_succ_eq_append_getElem hj,Nat.add_sub_cancel,yC e]
     rw[this]
    ·rw[if_neg hp];unfold rfS;rw[if_neg (by rw[hws];decide)];simp only;rw[if_neg (by simp),hup]
 have J:=key t.length (xM _);rw[xS]at J;unfold CC;rw[J];by_cases hl:0 < t.length/\t[t.length - 1]? =some 32
 ·have:=(h.w _ hl.2).2.1;omega
 ·rw[if_neg hl]
section
def Wj:AcP:=[67,65,76,76]
def ZF:AcP:=[67,65,84,69,71,79,82,89]
def ZD:AcP:=[80,79,87,69,82]
def ZE:AcP:=[67,76,65,73,77,69,68]
def J3:AcP:=[74,85,77,80,83]
def Hc:AcP:=[69,78,68]
def XF:List Int->Bool
 | []=>true
 | [_]=>true
 | a::b::r=>decide (a < b)&&XF (b::r)
def Lm(l:List Int):Bool:=l.all (fun n=>decide (1<=n/\n<=20000))&&(XF l&&decide (l.length<=16))
def hdW(l:Log)(k:Nat):List AcP:=match k with
 | 0=>[Wj,l.Call]
 | 1=>[ZF,decDigits l.Category.toNat]
 | 2=>[ZD,decDigits l.Power.toNat]
 | 3=>[ZE,decDigits l.Claimed.toNat]
 | _=>J3::l.Jumps.map fun n=>decDigits n.toNat
def hdT(l:Log)(k:Nat):AcP:=jn (hdW l k)
def hdV(l:Log)(k:Nat):Bool:=match k with
 | 0=>Gg l.Call
 | 1=>decide (1<=l.Category/\l.Category<=9)
 | 2=>decide (1<=l.Power/\l.Power<=9999)
 | 3=>decide (0<=l.Claimed/\l.Claimed<=1000000)
 | _=>Lm l.Jumps
def hdS(k:Nat)(v l:Log):Log:=match k with
 | 0=>{l with Call:=v.Call}
 | 1=>{l with Category:=v.Category}
 | 2=>{l with Power:=v.Power}
 | 3=>{l with Claimed:=v.Claimed}
 | _=>{l with Jumps:=v.Jumps}
theorem XQ{s:AcP}(h:Gg s=true):∀ b,b∈s->isL b=true\/isD b=true\/b=47:=by
 unfold Gg at h;cases hc:callB s with
 | none=>rw[hc]at h;cases h
 | some t=>
  obtain⟨J,O⟩:=Wb hc;have e:∀{l:AcP},l.all isE=true->∀ b,b∈l->isL b=true\/isD b=true\/b=47:=fun hl b hb=>by
   have:=xN.1 hl b hb;unfold isE at this;rw[yP]at this;rcases this with h | h
   ·exact .inl h
   ·exact .inr (.inl h)
  unfold okT at J;simp only[xB,yP,decide_eq_true_eq]at J;obtain⟨⟨⟨⟨G,a2⟩,I⟩,_⟩,_⟩:=J;intro b hb;rw[O]at hb;unfold PE at hb;rcases yF.1 hb with hb | hb
  ·by_cases ht:t.1=[]
   ·rw[if_pos ht]at hb;exact e (W4 a2) b hb
   ·rw[if_neg ht]at hb;rcases yF.1 hb with hb | hb
    ·rcases G with G | G
     ·exact absurd G ht
     ·exact e (AaM G) b hb
    ·rcases xJ.1 hb with rfl | hb
     ·exact .inr (.inr rfl)
     ·exact e (W4 a2) b hb
  ·by_cases ht:t.2.2=[]
   ·rw[if_pos ht]at hb;cases hb
   ·rw[if_neg ht]at hb;rcases xJ.1 hb with rfl | hb
    ·exact .inr (.inr rfl)
    ·rcases I with I | I
     ·exact absurd I ht
     ·exact e (Xd I) b hb
def plB(b:UInt8):Bool:=decide (33<=b.toNat)&&decide (b.toNat<=95)
theorem Yn{b:UInt8}(h:plB b=true):b≠32/\b≠10/\b≠9/\b≠13/\ ¬ (97<=b.toNat/\b.toNat<=122):=by
 unfold plB at h;simp only[xB,decide_eq_true_eq]at h;refine⟨?_,?_,?_,?_,by omega⟩ <;> · rintro rfl;revert h;decide
theorem YW{b:UInt8}(h:isL b=true):plB b=true:=by unfold isL at h;unfold plB;simp at h ⊢;omega
theorem RE{b:UInt8}(h:isD b=true):plB b=true:=by unfold isD at h;unfold plB;simp at h ⊢;omega
theorem Ab2(u:Nat):(decDigits u).all plB=true:=by
 rw[xN];exact fun b hb=>RE (xN.1 (KJ u) b hb)
def Wd(w:AcP):Prop:=w≠[]/\w.all plB=true
theorem QE(u:Nat):Wd (decDigits u):=⟨by have:=Ns u;intro e;rw[e]at this;simp at this,Ab2 u⟩
theorem Wd.no32{w:AcP}(h:Wd w):(32:UInt8)∉w:=fun hm=>(Yn (xN.1 h.2 _ hm)).1 rfl
theorem Oe{l:Log}{k:Nat}(h:hdV l k=true):hdW l k≠[]/\ ∀ w,w∈hdW l k->Wd w:=by
 match k,h with
 | 0,h=>
  refine⟨by simp[hdW],fun w hw=>?_⟩;simp only[hdW,xJ,yQ,or_false]at hw;rcases hw with rfl | rfl
  ·exact⟨by decide,by decide⟩
  ·refine⟨?_,?_⟩
   ·rintro e;have h:Gg l.Call=true:=h;rw[e]at h;revert h;decide
   ·rw[xN];intro b hb;rcases XQ h b hb with h | h | rfl
    ·exact YW h
    ·exact RE h
    ·decide
 | 1,h=>
  refine⟨by simp[hdW],fun w hw=>?_⟩;simp only[hdW,xJ,yQ,or_false]at hw;rcases hw with rfl | rfl
  ·exact⟨by decide,by decide⟩
  ·exact QE _
 | 2,h=>
  refine⟨by simp[hdW],fun w hw=>?_⟩;simp only[hdW,xJ,yQ,or_false]at hw;rcases hw with rfl | rfl
  ·exact⟨by decide,by decide⟩
  ·exact QE _
 | 3,h=>
  refine⟨by simp[hdW],fun w hw=>?_⟩;simp only[hdW,xJ,yQ,or_false]at hw;rcases hw with rfl | rfl
  ·exact⟨by decide,by decide⟩
  ·exact QE _
 | k + 4,h=>
  refine⟨by simp[hdW],fun w hw=>?_⟩;simp only[hdW,xJ,List.mem_map]at hw;rcases hw with rfl | ⟨n,_,rfl⟩
  ·exact⟨by decide,by decide⟩
  ·exact QE _
theorem JK{l:Log}{k:Nat}(h:hdV l k=true):pcs 32 (hdT l k)=hdW l k:=WB (Oe h).1 fun w hw=>((Oe h).2 w hw).no32
theorem YS:∀{l:List AcP} {b:UInt8},b∈jn l->b=32\/ ∃ w,w∈l/\b∈w
 | [],b,h=>by rw[Ru]at h;cases h
 | [x],b,h=>by rw[CX]at h;exact .inr ⟨x,by simp,h⟩
 | x::y::r,b,h=>by
  rw[DG (by simp)]at h;rcases yF.1 h with h | h
  ·exact .inr ⟨x,by simp,h⟩
  ·rcases xJ.1 h with rfl | h
   ·exact .inl rfl
   ·rcases YS h with h | ⟨w,hw,hb⟩
    ·exact .inl h
    ·exact .inr ⟨w,xE _ hw,hb⟩
theorem Abp{l:List AcP}(hn:l≠[])(h:∀ w,w∈l->Wd w):jn l≠[]/\(jn l)[0]?≠some 32/\(jn l)[(jn l).length - 1]?≠some 32:=by
 have first:∀{w:AcP},Wd w->w[0]?≠some 32:=fun hw e=>hw.no32 (xQ e)
 induction l with
 | nil=>exact absurd rfl hn
 | cons x r ih=>
  have hx:=h x (by simp);have hxp:0 < x.length:=zJ.2 hx.1;cases r with
  | nil=>
   rw[CX];exact⟨hx.1,first hx,fun e=>hx.no32 (xQ e)⟩
  | cons y r=>
   obtain⟨G,i2,I⟩:=ih (by simp) fun w hw=>h w (xE _ hw);have hp:0 < (jn (y::r)).length:=zJ.2 G;rw[DG (by simp)];refine⟨by simp,?_,?_⟩
   ·rw[yN hxp];exact first hx
   ·rw[xD,xH,yA (by omega),show x.length + ((jn (y::r)).length + 1) - 1 - x.length=((jn (y::r)).length - 1) + 1 by omega,yD];exact I
theorem YR{l:List AcP}(hn:l≠[])(h:∀ w,w∈l->Wd w):NFo (jn l):=by
 refine⟨fun b hb=>?_,?_⟩
 ·rcases YS hb with rfl | ⟨w,hw,hb⟩
  ·decide
  ·have:=Yn (xN.1 (h w hw).2 b hb);exact⟨this.2.2.1,this.2.2.2.1,this.2.2.2.2⟩
 ·induction l with
  | nil=>exact absurd rfl hn
  | cons x r ih=>
   have hx:=h x (by simp);have hxp:0 < x.length:=zJ.2 hx.1;cases r with
   | nil=>
    intro i hi;rw[CX]at hi;exact absurd (xQ hi) hx.no32
   | cons y r=>
    have hr:∀ w,w∈y::r->Wd w:=fun w hw=>h w (xE _ hw);obtain⟨G,i2,i3⟩:=Abp (l:=y::r) (by simp) hr;have hp:0 < (jn (y::r)).length:=zJ.2 G;intro i hi;rw[DG (by simp)]at hi ⊢;by_cases hlt:i < x.length
    ·rw[yN hlt]at hi;exact absurd (xQ hi) hx.no32
    ·by_cases he:i=x.length
     ·subst he;refine⟨hxp,by simp;omega,?_⟩;rw[yN (by omega)];exact fun e=>hx.no32 (xQ e)
     ·obtain⟨j,rfl⟩:∃ j,i=x.length + 1 + j:=⟨i - x.length - 1,by omega⟩;rw[yA (by omega),show x.length + 1 + j - x.length=j + 1 by omega,yD]at hi;obtain⟨w1,w2,I⟩:=ih (by simp) hr j hi;refine⟨by omega,by simp;omega,?_⟩;obtain⟨m,rfl⟩:∃ m,j=m + 1:=⟨j - 1,by omega⟩;rw[yA (by omega),show x.length + 1 + (m + 1) - 1 - x.length=m + 1 by omega,yD];exact I
theorem AaA{l:Log}{k:Nat}(h:hdV l k=true):CC (hdT l k)=hdT l k:=U7 (YR (Oe h).1 (Oe h).2)
theorem Aau(m:Int):Wd (D9 m):=by
 unfold D9;split
 ·exact⟨by decide,by decide⟩
 ·split <;> exact⟨by decide,by decide⟩
theorem Y9{o:Ac}{E:Af}(h:CR o E=true):∀ w,w∈fsw o E->Wd w:=by
 intro w hw;unfold fsw at hw;split at hw
 ·simp at hw;subst hw;exact⟨by decide,by decide⟩
 ·obtain⟨h1,G,I⟩:=Mv (okE h) w hw;refine⟨by rintro rfl;simp at I,?_⟩;rw[xN]at G ⊢;exact fun b hb=>RE (G b hb)
theorem AbK{b:UInt8}(h:Qj b=true):plB b=true:=by
 unfold Qj at h;simp only[yP,beq_iff_eq]at h;rcases h with(h | h) | rfl
 ·exact YW h
 ·exact RE h
 ·decide
theorem WN{o:Ac}{x:Line}(h:OkL o x):FF o x≠[]/\ ∀ w,w∈FF o x->Wd w:=by
 have hc:=Nq h.c;have G:x.Call.all plB=true:=by
  have:=h.c;unfold H6 at this;simp only[xB]at this;rw[xN];exact fun b hb=>AbK (xN.1 this.2 b hb)
 have hall:(dP 2 (x.Minute.toNat / 60 % 24)++dP 2 (x.Minute.toNat % 60)).all isD=true:=by rw[zB,JM,JM];rfl
 refine⟨by unfold FF Jx;simp,fun w hw=>?_⟩;unfold FF Jx tW at hw;simp only[yF,xJ,yQ,or_false]at hw;rcases hw with(((rfl | rfl | rfl | rfl) | (rfl | rfl)) | (rfl | rfl)) | hw | rfl | hw
 ·exact⟨by decide,by decide⟩
 ·exact QE _
 ·exact QE _
 ·exact Aau _
 ·exact QE _
 ·refine⟨fun e=>?_,?_⟩
  ·have I:=congrArg List.length e;have h2:=(O8 2 (x.Minute.toNat / 60 % 24)).1;rw[xD,zC]at I;omega
  ·rw[xN]at hall ⊢;exact fun b hb=>RE (hall b hb)
 ·exact⟨by intro e;rw[e]at hc;simp at hc,G⟩
 ·exact⟨by decide,by decide⟩
 ·exact Y9 h.s w hw
 ·exact⟨by decide,by decide⟩
 ·exact Y9 h.g w hw
theorem Xz{o:Ac}{x:Line}(h:OkL o x):CC (Bq o x)=Bq o x:=U7 (YR (WN h).1 (WN h).2)
def fw(s:AcP):AcP:=(pcs 32 s).headD []
def fwK(k:Nat):AcP:=match k with | 0=>Wj | 1=>ZF | 2=>ZD | 3=>ZE | _=>J3
theorem WV{l:Log}{k:Nat}(h:hdV l k=true):fw (hdT l k)=fwK k:=by
 unfold fw;rw[JK h]
 match k with
 | 0=>rfl
 | 1=>rfl
 | 2=>rfl
 | 3=>rfl
 | k + 4=>rfl
theorem AaI{o:Ac}{x:Line}(h:OkL o x):fw (Bq o x)=QSO:=by unfold fw;rw[Gn h];rfl
theorem Abx:fw Hc=Hc:=rfl
theorem Aaz{u v:Log}{j k:Nat}(hj:j<=4)(hk:k<=4)(hu:hdV u j=true)(hv:hdV v k=true)(h:hdT u j=hdT v k):j=k:=by
 have e:=WV hu;rw[h,WV hv]at e;have a:j=0\/j=1\/j=2\/j=3\/j=4:=by omega
 have b:k=0\/k=1\/k=2\/k=3\/k=4:=by omega
 rcases a with rfl | rfl | rfl | rfl | rfl <;> rcases b with rfl | rfl | rfl | rfl | rfl <;> first | rfl | exact absurd e (by decide)
theorem U4{u:Log}{k:Nat}{o:Ac}{x:Line}(hu:hdV u k=true)(hx:OkL o x):hdT u k≠Bq o x:=by
 intro h;have e:=WV hu;rw[h,AaI hx]at e
 match k with
 | 0=>exact absurd e (by decide)
 | 1=>exact absurd e (by decide)
 | 2=>exact absurd e (by decide)
 | 3=>exact absurd e (by decide)
 | k + 4=>exact absurd e (by show ¬ _=J3;decide)
theorem V4{u:Log}{k:Nat}(hu:hdV u k=true):hdT u k≠Hc:=by
 intro h;have e:=WV hu;rw[h,Abx]at e
 match k with
 | 0=>exact absurd e (by decide)
 | 1=>exact absurd e (by decide)
 | 2=>exact absurd e (by decide)
 | 3=>exact absurd e (by decide)
 | k + 4=>exact absurd e (by show ¬ _=J3;decide)
theorem Jw{l:List Int}(h:Lm l=true):∀ n,n∈l->1<=n/\n<=20000:=by
 unfold Lm at h;simp only[xB,xN,decide_eq_true_eq]at h;exact h.1
theorem PA:∀{a b:List Int},(∀ n,n∈a->0<=n)->(∀ n,n∈b->0<=n)->(a.map fun n=>decDigits n.toNat)=(b.map fun n=>decDigits n.toNat)->a=b
 | [],[],_,_,_=>rfl
 | [],_::_,_,_,h=>by simp at h
 | _::_,[],_,_,h=>by simp at h
 | x::a,y::b,ha,hb,h=>by
  simp only[yH,wE]at h;rw[Mx (ha x (by simp)) (hb y (by simp)) h.1,PA (fun n hn=>ha n (by simp[hn])) (fun n hn=>hb n (by simp[hn])) h.2]
theorem Abu{u v:Log}{k:Nat}(hu:hdV u k=true)(hv:hdV v k=true)(h:hdT u k=hdT v k):∀ l,hdS k u l=hdS k v l:=by
 have e:hdW u k=hdW v k:=by rw[<-JK hu,<-JK hv,h]
 intro l
 match k,hu,hv,e with
 | 0,hu,hv,e=>
  simp only[hdW,wE,and_true,true_and]at e;simp only[hdS,e]
 | 1,hu,hv,e=>
  simp only[hdW,wE,and_true,true_and]at e;simp only[hdV,decide_eq_true_eq]at hu hv;simp only[hdS,Mx (by omega) (by omega) e]
 | 2,hu,hv,e=>
  simp only[hdW,wE,and_true,true_and]at e;simp only[hdV,decide_eq_true_eq]at hu hv;simp only[hdS,Mx (by omega) (by omega) e]
 | 3,hu,hv,e=>
  simp only[hdW,wE,and_true,true_and]at e;simp only[hdV,decide_eq_true_eq]at hu hv;simp only[hdS,Mx (by omega) (by omega) e]
 | k + 4,hu,hv,e=>
  simp only[hdW,wE,true_and]at e;have:=PA (fun n hn=>by have:=Jw (show Lm u.Jumps=true from hu) n hn;omega) (fun n hn=>by have:=Jw (show Lm v.Jumps=true from hv) n hn;omega) e;simp only[hdS,this]
end
section
def lnE(s:AcP):List (AcP×Bool):=match(pcs 10 s).getLast?,(pcs 10 s).dropLast with
 | some [],l=>l.map fun x=>(x,true)
 | some x,l=>l.map (fun x=>(x,true))++[(x,false)]
 | none,l=>l.map fun x=>(x,true)
theorem Q6{c:UInt8}:∀{L:List AcP} {x:AcP},(∀ y,y∈L->c∉y)->c∉x->pcs c (L.flatMap (fun y=>y++[c])++x)=L++[x]
 | [],x,_,hx=>by simpa using Fa hx
 | y::L,x,hL,hx=>by
  have ih:=Q6 (L:=L) (x:=x) (fun z hz=>hL z (by simp[hz])) hx;rw[zM];have:y++[c]++L.flatMap (fun y=>y++[c])++x=y++c::(L.flatMap (fun y=>y++[c])++x):=by simp
  rw[this,GS (hL y (by simp)),ih];rfl
theorem WM{L:List AcP}(h:∀ y,y∈L->(10:UInt8)∉y):lnE (L.flatMap fun y=>y++[10])=L.map fun x=>(x,true):=by
 have:=Q6 (c:=10) (L:=L) (x:=[]) h (by simp);rw[zD]at this;unfold lnE;rw[this];simp
def Acb(o:Ac)(l:List Line)(i:Nat):Bool:=match l[i]? with
 | some x=>Cy o x&&(decide (i=0)||match l[i - 1]? with
  | some y=>decide (y.Num < x.Num)&&decide (y.Minute<=x.Minute)
  | none=>true)
 | none=>true
end
def Bb(N:Nat)(G I J:Int):Option Bool:=
 some ((decide (I<=G))&&(decide (G<=J)))
theorem A0(N:Nat)(w0:World)(F0:Mem)(hF:AcR w0 F0)(G J O:Int)(r:Bool)(h:Bb N G J O=some r):
  cA 73 [vi G,vi J,vi O] w0 F0 (.bool r):=by
 have Y:=Acv hF;refine Go 15 Tryz.func73<|sR [0]<|Vs 1<|nR (rG 9)<|Acz (kP w0 F0 F0 [] [] [(6,(.bool ((decide (J<=G))&&(decide (G<=O)))))]) ?_ ?_
 ·refine Vs 4<|Acy (decide (J<=G)) (fun I=>?_) (fun I=>?_)
  ·refine Vgs I 3<|Pk1 I<|Vs 1 ?_;exact Aco ⟨rfl,F0,Y,Acu _,fJ ⟨congrArg Value.bool (Cv I rfl),trivial⟩⟩
  ·refine Ss I 3<|Pk0 I<|Vs 1 ?_;exact Aco ⟨rfl,F0,Y,Acu _,fJ ⟨congrArg Value.bool (FG I rfl),trivial⟩⟩
 ·rintro f h0 ⟨F1,Z,h1,⟨_,rfl⟩⟩;refine Ab<|Rt ?_;obtain rfl:=Aa h;exact Re [.bool ((decide (J<=G))&&(decide (G<=O)))] Z rfl
def FR(N:Nat)(J:AcP)(h0:Bool):(Bool×Int)->Option (A2 Bool (Bool×Int)):=fun G=>
 (bif(decide (G.2 < (J.length:Int)))then((IF J G.2).bind fun I=>((bif G.1 then((Bb N (W64 I) 65 90).bind fun O=>(bif O then some true else((Bb N (W64 I) 48 57).bind fun Y=>(bif Y then some true else some (I==47)))))else some false).bind fun Z=>some (.next (Z,(W64 (G.2 + 1))))))else some (.done (G.1,G.2)))
def KE(N:Nat)(G:AcP):Option Bool:=
 ((Bb N (G.length:Int) 1 16).bind fun I=>((AF (FR N G I) N (I,0)).bind fun o=>o.k (fun r=>some r) (fun J=>some J.1)))
theorem T8(N:Nat)(w0:World)(F0:Mem)(hF:AcR w0 F0)(I:AcP)(r:Bool)(h:KE N I=some r):
  cA 74 [sv I] w0 F0 (.bool r):=by
 have h5:=Acv hF;refine Go 34 Tryz.func74<|sR [0]<|Vs 1<|nR (rG 4)<|Vs 2 ?_;obtain⟨h6,hg,hh⟩:=bS h;refine Cl' (cO 73) h5 (A0 N w0 F0 h5.pers (I.length:Int) 1 16 _ hg) ?_;rintro _ F1 bj hm bk rfl;refine Vs 1<|Nss<|sR [0,1,2]<|Vs 3<|Nt ?_;obtain⟨h7,hn,ho⟩:=bS hh;refine AcA (fun f w=>∃(h0:(Bool×Int))(F3:_),h7=.done h0/\HS w0 F0 w F3 []/\Acs F1 F3/\FI f [] [(3,(.bool h0.1))]) ?_ ?_
 ·refine Bk<|Acr (by kernel_rfl) (fun m f w=>∃(J:(Bool×Int))(O:Mem),AF (FR N I h6) m J=some h7/\HS w0 F0 w O []/\Acs F1 O/\FI f [] [(0,(sv I)),(3,(.bool J.1)),(10,(vi (I.length:Int))),(11,(vi J.2))]) N ⟨(h6,0),F1,hn,hm,Acu _,fI⟩ ?_;rintro bl f hp ⟨J,O,hq,h1,h8,⟨_,rfl⟩⟩;obtain⟨hr,bm,rfl,ht,h9⟩:=AB hq;refine sR [0]<|Vs 1<|Nss<|Cd ht (fun hu hw=>?_) (fun hu hx=>?_)
  ·refine Sc<|Ab<|Sq<|Bk<|sR [0,1]<|Vs 2<|nR (rG 4)<|Vs 2 ?_;obtain⟨h2,hy,hz⟩:=bS hw;refine V 16 5 (CA (t:=9) (x:=.tmp 14) (y:=.tmp 15) (a:=I) (k:=.i64) (i:=J.2) (v:=h2) rfl rfl (by kernel_rfl) hy)<|Vs 1<|Nt<|Rg (rG 16) ?_;obtain⟨ha,b0,b1⟩:=bS hz;refine Acz (kP w0 F0 O [] [] [(0,(sv I)),(3,(.bool ha)),(10,(vi (I.length:Int))),(11,(vi J.2))]) ?_ ?_
   ·refine Vs 2<|Sp b0 (fun G b2=>?_) (fun G b3=>?_)
    ·refine Vgs G 2 ?_;obtain⟨bn,b4,b5⟩:=bS b2;refine Cg G (cO 73) h1 (A0 N hp O h1.pers (W64 h2) 65 90 _ b4) ?_;rintro _ F5 b6 h3 h4 rfl;refine Vgs G 1<|Sp b5 (fun Y b7=>?_) (fun Y b8=>?_)
     ·refine Ss Y 3<|Pg1 G Y<|Vgs G 1<|Ss rT 2<|Pg1 G rT<|Pk1 G<|Vs 1 ?_;obtain rfl:=Aa b7;exact Aco ⟨rfl,F5,h3,h4,fI⟩
     ·refine Vgs Y 2 ?_;obtain⟨bo,b9,ba⟩:=bS b8;refine Cg Y (cO 73) h3 (A0 N b6 F5 h3.pers (W64 h2) 48 57 _ b9) ?_;rintro _ F6 bp hb hc rfl;refine Pg0 G Y<|Vgs G 1<|Sp ba (fun Z bb=>?_) (fun Z bc=>?_)
      ·refine Ss Z 2<|Pg1 G Z<|Pk1 G<|Vs 1 ?_;obtain rfl:=Aa bb;exact Aco ⟨rfl,F6,hb,h4.t hc,fI⟩
      ·refine Vgs Z 2<|Pg0 G Z<|Pk1 G<|Vs 1 ?_;obtain rfl:=Aa bc;exact Aco ⟨rfl,F6,hb,h4.t hc,fI⟩
    ·refine Ss G 4<|Su' 3<|Ss G 2<|Su' 2<|Ss G 1<|Pk0 G<|Vs 1 ?_;obtain rfl:=Aa b3;exact Aco ⟨rfl,O,h1,Acu _,fI⟩
   ·rintro f bq ⟨F4,bd,be,⟨_,rfl⟩⟩;refine Am<|Ab<|Rg [0,1]<|Vs 2<|Aco ?_;have bf:=Ay b1 h9;exact⟨hr,xF _,(ha,(W64 (J.2 + 1))),F4,bf,bd,h8.t be,fI⟩
  ·refine Ex<|Ak<|Ak<|Av rfl ?_;have bg:=AA hx h9;exact .inl ⟨rfl,(J.1,J.2),O,bg,h1,h8,fI⟩
 ·rintro f br ⟨h0,F3,rfl,bh,bs,⟨_,rfl⟩⟩;have bi:=AW ho;refine Ab<|sR [0,1]<|Vs 2<|Nt<|Rt ?_;obtain rfl:=Aa bi;exact Re [.bool h0.1] bh rfl
def DY(N:Nat)(I:Ac)(G:Line):Option Bool:=
 (((Bb N G.Num 1 65535).bind fun J=>(bif J then((Bb N G.Khz 1 10000000).bind fun O=>(bif O then((Bb N G.Mode 1 3).bind fun Y=>(bif Y then((Bb N G.Minute 0 20000).bind fun Z=>(bif Z then((KE N G.Call).bind fun h0=>(bif h0 then((CP N (lY I) ({Report:=G.Sent.Report,Serial:=G.Sent.Serial,Zone:=G.Sent.Zone}:Af)).bind fun h1=>(bif h1 then((CP N (lY I) ({Report:=G.Got.Report,Serial:=G.Got.Serial,Zone:=G.Got.Zone}:Af)).bind fun h2=>some h2)else some false))else some false))else some false))else some false))else some false))else some false)).bind fun h3=>some h3)
theorem Kr(N:Nat)(w0:World)(F0:Mem)(hF:AcR w0 F0)(I:Ac)(G:Line)(r:Bool)(h:DY N I G=some r):
  cA 21 [.agg (Ah I),.agg (Cj G)] w0 F0 (.bool r):=by
 have hn:=Acv hF;refine Go 40 Tryz.func21<|sR [0,1,2]<|Bx' 23 (Ah I) hn (fun bt bu ho=>?_);refine Bx' 34 (Cj G) ho (fun bv hp hc=>?_);refine Vs 1<|nR (rG 36) ?_;obtain⟨hh,hq,hr⟩:=bS h;refine Acz (kP w0 F0 F0 [] [] [(4,(.bool hh))]) ?_ ?_
 ·refine Vs 1<|Ld hc.at0 ?_;obtain⟨bw,ht,hu⟩:=bS hq;refine Cl' (cO 73) hc (A0 N hp F0 hc.pers G.Num 1 65535 _ ht) ?_;rintro _ F2 hw h7 Y rfl;refine Vs 1<|Sp hu (fun Z hx=>?_) (fun Z hy=>?_)
  ·refine Vgs Z 1<|Lg Z h7.at0 ?_;obtain⟨bx,hz,b0⟩:=bS hx;refine Cg Z (cO 73) h7 (A0 N hw F2 h7.pers G.Khz 1 10000000 _ hz) ?_;rintro _ F3 b1 h8 h3 rfl;refine Pk1 Z<|Vs 1<|Sp b0 (fun h0 b2=>?_) (fun h0 b3=>?_)
   ·refine Vgs h0 1<|Lg h0 h8.at0 ?_;obtain⟨bz,b4,b5⟩:=bS b2;refine Cg h0 (cO 73) h8 (A0 N b1 F3 h8.pers G.Mode 1 3 _ b4) ?_;rintro _ F4 b6 h9 h4 rfl;refine Pk1 h0<|Vs 1<|Sp b5 (fun h1 b7=>?_) (fun h1 b8=>?_)
    ·refine Vgs h1 1<|Lg h1 h9.at0 ?_;obtain⟨c0,b9,ba⟩:=bS b7;refine Cg h1 (cO 73) h9 (A0 N b6 F4 h9.pers G.Minute 0 20000 _ b9) ?_;rintro _ F5 bb ha hb rfl;refine Pk1 h1<|Vs 1<|Sp ba (fun h2 bc=>?_) (fun h2 bd=>?_)
     ·refine Vgs h2 1<|Lg h2 ha.at0 ?_;obtain⟨c1,be,bf⟩:=bS bc;refine Cg h2 (cO 74) ha (T8 N bb F5 ha.pers G.Call _ be) ?_;rintro _ F6 bg h5 hg rfl;refine Pk1 h2<|Vs 1<|Sp bf (fun J bh=>?_) (fun J bi=>?_)
      ·refine Lg J h5.at1 ?_;refine Vgs J 1<|Lg J h5.at0 ?_;obtain⟨c3,bj,bk⟩:=bS bh;refine Cg J (cO 75) h5 (FK N bg F6 h5.pers (lY I) ({Report:=G.Sent.Report,Serial:=G.Sent.Serial,Zone:=G.Sent.Zone}:Af) _ bj) ?_;rintro _ F7 bl h6 hm rfl;refine Pk1 J<|Vs 1<|Sp bk (fun O bm=>?_) (fun O bn=>?_)
       ·refine Lg O h6.at1 ?_;refine Vgs O 1<|Lg O h6.at0 ?_;obtain⟨c4,bo,bp⟩:=bS bm;refine Cg O (cO 75) h6 (FK N bl F7 h6.pers (lY I) ({Report:=G.Got.Report,Serial:=G.Got.Serial,Zone:=G.Got.Zone}:Af) _ bo) ?_;rintro _ F8 c5 bq br rfl;refine Pk1 O<|Vs 1 ?_;obtain rfl:=Aa bp;exact Aco ⟨rfl,F8,bq.dr0.dr0,(((((Y.t h3).trans h4).trans hb).trans hg).trans hm).trans br,fI⟩
       ·refine Ss O 4<|Pk0 O<|Vs 1 ?_;obtain rfl:=Aa bn;exact Aco ⟨rfl,F7,h6.dr0.dr0,((((Y.t h3).trans h4).trans hb).trans hg).trans hm,fI⟩
      ·refine Ss J 4<|Pk0 J<|Vs 1<|Ss rF 4<|Pk0 rF<|Vs 1 ?_;obtain rfl:=Aa bi;exact Aco ⟨rfl,F6,h5.dr0.dr0,(((Y.t h3).trans h4).trans hb).trans hg,fI⟩
     ·refine Ss h2 3<|Pk0 h2<|Vs 1<|Ss rF 4<|Pk0 rF<|Vs 1<|Ss rF 4<|Pk0 rF<|Vs 1 ?_;obtain rfl:=Aa bd;exact Aco ⟨rfl,F5,ha.dr0.dr0,((Y.t h3).trans h4).trans hb,fI⟩
    ·refine Ss h1 3<|Pk0 h1<|Vs 1<|Ss rF 3<|Pk0 rF<|Vs 1<|Ss rF 4<|Pk0 rF<|Vs 1<|Ss rF 4 ?_;refine Pk0 rF<|Vs 1 ?_;obtain rfl:=Aa b8;exact Aco ⟨rfl,F4,h9.dr0.dr0,(Y.t h3).trans h4,fI⟩
   ·refine Ss h0 3<|Pk0 h0<|Vs 1<|Ss rF 3<|Pk0 rF<|Vs 1<|Ss rF 3<|Pk0 rF<|Vs 1<|Ss rF 4 ?_;refine Pk0 rF<|Vs 1<|Ss rF 4<|Pk0 rF<|Vs 1 ?_;obtain rfl:=Aa b3;exact Aco ⟨rfl,F3,h8.dr0.dr0,Y.t h3,fI⟩
  ·refine Ss Z 3<|Pk0 Z<|Vs 1<|Ss rF 3<|Pk0 rF<|Vs 1<|Ss rF 3<|Pk0 rF<|Vs 1<|Ss rF 3 ?_;refine Pk0 rF<|Vs 1<|Ss rF 4<|Pk0 rF<|Vs 1<|Ss rF 4<|Pk0 rF<|Vs 1 ?_;obtain rfl:=Aa hy;exact Aco ⟨rfl,F2,h7.dr0.dr0,Y,fI⟩
 ·rintro f c6 ⟨F1,bs,c7,⟨_,rfl⟩⟩;refine Ab<|Rt ?_;obtain rfl:=Aa hr;exact Re [.bool hh] bs rfl
def BC(N:Nat)(G I J:Int):Option Bool:=
 some ((decide (G>=I))&&(decide (G<=J)))
theorem BM(N:Nat)(w0:World)(F0:Mem)(hF:AcR w0 F0)(G J O:Int)(r:Bool)(h:BC N G J O=some r):
  cA 76 [vi G,vi J,vi O] w0 F0 (.bool r):=by
 have Y:=Acv hF;refine Go 15 Tryz.func76<|sR [0]<|Vs 1<|nR (rG 9)<|Acz (kP w0 F0 F0 [] [] [(6,(.bool ((decide (G>=J))&&(decide (G<=O)))))]) ?_ ?_
 ·refine Vs 4<|Acy (decide (G>=J)) (fun I=>?_) (fun I=>?_)
  ·refine Vgs I 3<|Pk1 I<|Vs 1 ?_;exact Aco ⟨rfl,F0,Y,Acu _,fJ ⟨congrArg Value.bool (Cv I rfl),trivial⟩⟩
  ·refine Ss I 3<|Pk0 I<|Vs 1 ?_;exact Aco ⟨rfl,F0,Y,Acu _,fJ ⟨congrArg Value.bool (FG I rfl),trivial⟩⟩
 ·rintro f h0 ⟨F1,Z,h1,⟨_,rfl⟩⟩;refine Ab<|Rt ?_;obtain rfl:=Aa h;exact Re [.bool ((decide (G>=J))&&(decide (G<=O)))] Z rfl
def FX(N:Nat)(G:Int):Option Bool:=
 some (bif(decide (G>=65))then((decide (G<=90))||(bif(decide (G>=48))then((decide (G<=57))||(G==47))else(G==47)))else(bif(decide (G>=48))then((decide (G<=57))||(G==47))else(G==47)))
theorem OA(N:Nat)(w0:World)(F0:Mem)(hF:AcR w0 F0)(G:Int)(r:Bool)(h:FX N G=some r):
  cA 141 [.int .u8 G] w0 F0 (.bool r):=by
 have Z:=Acv hF;refine Go 21 Tryz.func141<|sR [0]<|Vs 1<|nR (rG 19)<|Acz (kP w0 F0 F0 [] [] [(2,(.bool (bif(decide (G>=65))then((decide (G<=90))||(bif(decide (G>=48))then((decide (G<=57))||(G==47))else(G==47)))else(bif(decide (G>=48))then((decide (G<=57))||(G==47))else(G==47)))))]) ?_ ?_
 ·refine Vs 3<|Acy (decide (G>=65)) (fun J=>?_) (fun J=>?_)
  ·refine Vgs J 2<|Pk1 J<|Vs 1<|Acy (decide (G<=90)) (fun I=>?_) (fun I=>?_)
   ·refine Ss I 3<|Su' 2<|Ss I 1<|Pk1 I<|Vs 1<|Ss rT 2<|Pk1 rT<|Vs 1 ?_;exact Aco ⟨rfl,F0,Z,Acu _,fJ ⟨congrArg Value.bool (Ii J (Ej I rfl)),trivial⟩⟩
   ·refine Vgs I 3<|Acy (decide (G>=48)) (fun O=>?_) (fun O=>?_)
    ·refine Vgs O 2<|Pg1 I O<|Pk0 I<|Vs 1<|Acy (decide (G<=57)) (fun h0=>?_) (fun h0=>?_)
     ·refine Ss h0 2<|Pk1 h0<|Vs 1 ?_;exact Aco ⟨rfl,F0,Z,Acu _,fJ ⟨congrArg Value.bool (Ii J (Ch I (Ii O (Ej h0 rfl)))),trivial⟩⟩
     ·refine Vgs h0 2<|Pk0 h0<|Vs 1 ?_;exact Aco ⟨rfl,F0,Z,Acu _,fJ ⟨congrArg Value.bool (Ii J (Ch I (Ii O (Ch h0 rfl)))),trivial⟩⟩
    ·refine Ss O 2<|Pg0 I O<|Pk0 I<|Vs 1<|Vg 18 5 14 false 17 rfl (mv 0 (.int .u8 G))<|Vg 19 4 14 false 17 rfl (Ji (t:=5) (t':=5) (x:=.tmp 18) (y:=.const (.int .u8 47)) (k:=.u8) (a:=G) (b:=47) rfl rfl)<|Pk0 rF<|Vs 1 ?_;exact Aco ⟨rfl,F0,Z,Acu _,fJ ⟨congrArg Value.bool (Ii J (Ch I (Ku O rfl))),trivial⟩⟩
  ·refine Ss J 2<|Pk0 J<|Vs 1<|Vg 10 5 6 false 9 rfl (mv 0 (.int .u8 G))<|Vg 11 4 6 false 9 rfl (Qs (t:=5) (t':=5) (x:=.tmp 10) (y:=.const (.int .u8 48)) (k:=.u8) (a:=G) (b:=48) rfl rfl)<|Vg 12 4 6 false 9 rfl (mv 11 (.bool (decide (G>=48))))<|Acy (decide (G>=48)) (fun Y=>?_) (fun Y=>?_)
   ·refine Vgs Y 2<|Vg 15 4 6 false 9 rfl (p1 12 (.tmp 14) (.const bF) (.bool (decide (G<=57))) Y)<|Pk0 rF<|Vs 1<|Acy (decide (G<=57)) (fun h1=>?_) (fun h1=>?_)
    ·refine Ss h1 2<|Pk1 h1<|Vs 1 ?_;exact Aco ⟨rfl,F0,Z,Acu _,fJ ⟨congrArg Value.bool (Ku J (Ii Y (Ej h1 rfl))),trivial⟩⟩
    ·refine Vgs h1 2<|Pk0 h1<|Vs 1 ?_;exact Aco ⟨rfl,F0,Z,Acu _,fJ ⟨congrArg Value.bool (Ku J (Ii Y (Ch h1 rfl))),trivial⟩⟩
   ·refine Ss Y 2<|Vg 15 4 6 false 9 rfl (p0 12 (.tmp 14) (.const bF) bF Y)<|Pk0 rF<|Vs 1<|Vg 18 5 14 false 17 rfl (mv 0 (.int .u8 G))<|Vg 19 4 14 false 17 rfl (Ji (t:=5) (t':=5) (x:=.tmp 18) (y:=.const (.int .u8 47)) (k:=.u8) (a:=G) (b:=47) rfl rfl)<|Pk0 rF<|Vs 1 ?_;exact Aco ⟨rfl,F0,Z,Acu _,fJ ⟨congrArg Value.bool (Ku J (Ku Y rfl)),trivial⟩⟩
 ·rintro f h3 ⟨F1,h2,h4,⟨_,rfl⟩⟩;refine Ab<|Rt ?_;obtain rfl:=Aa h;exact Re [.bool (bif(decide (G>=65))then((decide (G<=90))||(bif(decide (G>=48))then((decide (G<=57))||(G==47))else(G==47)))else(bif(decide (G>=48))then((decide (G<=57))||(G==47))else(G==47)))] h2 rfl
def GO(N:Nat)(I:AcP):Int->Option (A2 Bool Int):=fun G=>
 (bif(decide (G < (I.length:Int)))then((IF I G).bind fun J=>((FX N J).bind fun O=>bif(!O)then some (.ret false)else some (.next (W64 (G + 1)))))else some (.done G))
def Jm(N:Nat)(G:AcP):Option Bool:=
 (bif((decide ((G.length:Int) < 1))||(decide ((G.length:Int) > 16)))then some false else((AF (GO N G) N 0).bind fun o=>o.k (fun r=>some r) (fun h0=>some true)))
theorem SK(N:Nat)(w0:World)(F0:Mem)(hF:AcR w0 F0)(G:AcP)(r:Bool)(h:Jm N G=some r):
  cA 77 [sv G] w0 F0 (.bool r):=by
 have h1:=Acv hF;refine Go 23 Tryz.func77<|sR [0]<|Vs 1<|Nss<|sR (rG 8)<|Acz (kP w0 F0 F0 [] [] [(0,(sv G)),(11,(.bool ((decide ((G.length:Int) < 1))||(decide ((G.length:Int) > 16)))))]) ?_ ?_
 ·refine Vs 4<|Acy (decide ((G.length:Int) < 1)) (fun I=>?_) (fun I=>?_)
  ·refine Ss I 3<|Pk1 I ?_;exact Aco ⟨rfl,F0,h1,Acu _,fJ ⟨rfl,congrArg Value.bool (Ej I rfl),trivial⟩⟩
  ·refine Vgs I 3<|Pk0 I ?_;exact Aco ⟨rfl,F0,h1,Acu _,fJ ⟨rfl,congrArg Value.bool (Ch I rfl),trivial⟩⟩
 ·rintro f b5 ⟨F1,h2,b6,⟨_,rfl⟩⟩;refine Ab<|Cd h (fun h9 ha=>?_) (fun h9 hb=>?_)
  ·refine sR [0]<|Vs 1<|Nt<|Rt<|Ad ?_;obtain rfl:=Aa ha;exact Re [bF] h2 rfl
  ·refine Sc<|Ab<|Sq<|sR [0]<|Vs 1<|Nt ?_;obtain⟨h3,hc,h4⟩:=bS hb;refine AcA (fun f w=>∃(h5:Int)(Y:_),h3=.done h5/\HS w0 F0 w Y []/\Acs F1 Y/\FI f [] []) ?_ ?_
   ·refine Bk<|Acr (by kernel_rfl) (fun m f w=>∃(J:Int)(O:Mem),AF (GO N G) m J=some h3/\HS w0 F0 w O []/\Acs F1 O/\FI f [] [(0,(sv G)),(3,(vi J))]) N ⟨0,F1,hc,h2,Acu _,fI⟩ ?_;rintro b7 f hg ⟨J,O,hh,Z,h6,⟨_,rfl⟩⟩;obtain⟨hm,b8,rfl,hn,h0⟩:=AB hh;refine Sq<|sR (rG 4)<|Vs 4<|Nt<|Cd hn (fun ho hp=>?_) (fun ho hq=>?_)
    ·refine Sc<|Ab<|Sq<|Bk<|sR (rG 5)<|Vs 2 ?_;obtain⟨h7,hr,ht⟩:=bS hp;refine V 20 5 (CA (t:=9) (x:=.tmp 18) (y:=.tmp 19) (a:=G) (k:=.i64) (i:=J) (v:=h7) rfl rfl (by kernel_rfl) hr) ?_;obtain⟨b9,hu,hw⟩:=bS ht;refine Cl' (cO 141) Z (OA N hg O Z.pers h7 _ hu) ?_;rintro _ F4 ba h8 hx rfl;refine Vs 1<|Nt<|Cd hw (fun hy hz=>?_) (fun hy b0=>?_)
     ·refine sR [0]<|Vs 1<|Nt<|Rt<|Ar<|Ad<|Ad<|Ar ?_;have hret:=Bf hz h0;subst hret;refine .inr<|Ad ?_;obtain rfl:=Aa h4;exact Re [bF] h8 rfl
     ·refine Sc<|Am<|Ab<|Rg [0,1,2]<|Vs 3<|Aco ?_;have b1:=Ay b0 h0;exact⟨hm,xF _,W64 (J + 1),F4,b1,h8,h6.t hx,fI⟩
    ·refine Ex<|Ak<|Ak<|Av rfl ?_;have b2:=AA hq h0;exact .inl ⟨rfl,J,O,b2,Z,h6,fI⟩
   ·rintro f bb ⟨h5,Y,rfl,b3,bc,⟨_,rfl⟩⟩;have b4:=AW h4;refine Ab<|sR [0]<|Vs 1<|Nt<|Rt ?_;obtain rfl:=Aa b4;exact Re [bT] b3 rfl
def Do(N:Nat)(I:Ac)(G:Line):Option Bool:=
 (((BC N G.Num 1 65535).bind fun J=>bif(!J)then some true else((BC N G.Khz 1 10000000).bind fun O=>bif(!O)then some true else((BC N G.Mode 1 3).bind fun Y=>bif(!Y)then some true else((BC N G.Minute 0 20000).bind fun Z=>some (!Z))))).bind fun h0=>(bif h0 then some false else(((Jm N G.Call).bind fun h1=>(bif h1 then((Cr N (lY I) ({Report:=G.Sent.Report,Serial:=G.Sent.Serial,Zone:=G.Sent.Zone}:Af)).bind fun h2=>(bif h2 then((Cr N (lY I) ({Report:=G.Got.Report,Serial:=G.Got.Serial,Zone:=G.Got.Zone}:Af)).bind fun h3=>some h3)else some false))else some false)).bind fun h4=>some h4)))
theorem JD(N:Nat)(w0:World)(F0:Mem)(hF:AcR w0 F0)(I:Ac)(G:Line)(r:Bool)(h:Do N I G=some r):
  cA 22 [.agg (Ah I),.agg (Cj G)] w0 F0 (.bool r):=by
 have hn:=Acv hF;refine Go 42 Tryz.func22<|sR [0,1,2]<|Bx' 23 (Ah I) hn (fun hb c0 ho=>?_);refine Bx' 34 (Cj G) ho (fun hc hp h8=>?_);refine Vs 1<|Nss<|sR (rG 22) ?_;obtain⟨hq,hr,ht⟩:=bS h;refine Acz (kP w0 F0 F0 [sb hc (Cj G) 34,sb hb (Ah I) 23] [] [(2,(pt hb 0)),(3,(pt hc 0)),(26,(.bool hq))]) ?_ ?_
 ·refine Vs 1<|Ld h8.at0 ?_;obtain⟨c1,hu,hw⟩:=bS hr;refine Cl' (cO 76) h8 (BM N hp F0 h8.pers G.Num 1 65535 _ hu) ?_;rintro _ F2 hx h3 h4 rfl;refine Vs 2<|Sp hw (fun J hy=>?_) (fun J hz=>?_)
  ·refine Ss J 4<|Pk1 J<|Vs 1<|Ss rT 4<|Pk1 rT<|Vs 1<|Ss rT 4<|Pk1 rT ?_;obtain rfl:=Aa hy;exact Aco ⟨rfl,F2,h3,h4,fI⟩
  ·refine Vgs J 1<|Lg J h3.at0 ?_;obtain⟨c3,b0,b1⟩:=bS hz;refine Cg J (cO 76) h3 (BM N hx F2 h3.pers G.Khz 1 10000000 _ b0) ?_;rintro _ F3 b2 h5 h9 rfl;refine Vgs J 1<|Pk0 J<|Vs 1<|Sp b1 (fun O b3=>?_) (fun O b4=>?_)
   ·refine Ss O 4<|Pk1 O<|Vs 1<|Ss rT 4<|Pk1 rT ?_;obtain rfl:=Aa b3;exact Aco ⟨rfl,F3,h5,h4.t h9,fI⟩
   ·refine Vgs O 1<|Lg O h5.at0 ?_;obtain⟨c4,b5,b6⟩:=bS b4;refine Cg O (cO 76) h5 (BM N b2 F3 h5.pers G.Mode 1 3 _ b5) ?_;rintro _ F4 b7 h6 hg rfl;refine Vgs O 1<|Pk0 O<|Vs 1<|Sp b6 (fun Y b8=>?_) (fun Y b9=>?_)
    ·refine Ss Y 4<|Pk1 Y ?_;obtain rfl:=Aa b8;exact Aco ⟨rfl,F4,h6,(h4.t h9).trans hg,fI⟩
    ·refine Vgs Y 1<|Lg Y h6.at0 ?_;obtain⟨c5,ba,bb⟩:=bS b9;refine Cg Y (cO 76) h6 (BM N b7 F4 h6.pers G.Minute 0 20000 _ ba) ?_;rintro _ F5 c6 bc bd rfl;refine Vgs Y 1<|Pk0 Y ?_;obtain rfl:=Aa bb;exact Aco ⟨rfl,F5,bc,((h4.t h9).trans hg).trans bd,fI⟩
 ·rintro f be ⟨F1,h7,c7,⟨_,rfl⟩⟩;refine Ab<|Cd ht (fun bf bg=>?_) (fun bf bh=>?_)
  ·refine sR [0]<|Vs 1<|Nt<|Rt<|Ad ?_;obtain rfl:=Aa bg;exact Re [bF] h7 rfl
  ·refine Sc<|Ab<|sR (rG 16) ?_;obtain⟨hh,bi,bj⟩:=bS bh;refine Acz (kP w0 F0 F1 [] [] [(4,(.bool hh))]) ?_ ?_
   ·refine Vs 1<|Ld h7.at0 ?_;obtain⟨c8,bk,bl⟩:=bS bi;refine Cl' (cO 77) h7 (SK N be F1 h7.pers G.Call _ bk) ?_;rintro _ F7 bm h1 ha rfl;refine Vs 1<|Sp bl (fun Z bn=>?_) (fun Z bo=>?_)
    ·refine Lg Z h1.at1 ?_;refine Vgs Z 1<|Lg Z h1.at0 ?_;obtain⟨c9,bp,bq⟩:=bS bn;refine Cg Z (cO 78) h1 (EM N bm F7 h1.pers (lY I) ({Report:=G.Sent.Report,Serial:=G.Sent.Serial,Zone:=G.Sent.Zone}:Af) _ bp) ?_;rintro _ F8 br h2 hm rfl;refine Pk1 Z<|Vs 1<|Sp bq (fun h0 bs=>?_) (fun h0 bt=>?_)
     ·refine Lg h0 h2.at1 ?_;refine Vgs h0 1<|Lg h0 h2.at0 ?_;obtain⟨ca,bu,bv⟩:=bS bs;refine Cg h0 (cO 78) h2 (EM N br F8 h2.pers (lY I) ({Report:=G.Got.Report,Serial:=G.Got.Serial,Zone:=G.Got.Zone}:Af) _ bu) ?_;rintro _ F9 cb bw bx rfl;refine Pk1 h0<|Vs 1 ?_;obtain rfl:=Aa bv;exact Aco ⟨rfl,F9,bw.dr0.dr0,(ha.t hm).trans bx,fI⟩
     ·refine Ss h0 4<|Pk0 h0<|Vs 1 ?_;obtain rfl:=Aa bt;exact Aco ⟨rfl,F8,h2.dr0.dr0,ha.t hm,fI⟩
    ·refine Ss Z 4<|Pk0 Z<|Vs 1<|Ss rF 4<|Pk0 rF<|Vs 1 ?_;obtain rfl:=Aa bo;exact Aco ⟨rfl,F7,h1.dr0.dr0,ha,fI⟩
   ·rintro f cc ⟨F6,bz,cd,⟨_,rfl⟩⟩;refine Ab<|Rt ?_;obtain rfl:=Aa bj;exact Re [.bool hh] bz rfl
def Hq(N:Nat)(I:(List Int)):Int->Option (A2 Bool Int):=fun G=>
 (bif(decide (G < (I.length:Int)))then((idx I G).bind fun J=>(((Bb N J 1 20000).bind fun O=>bif(!O)then some true else(bif(decide (G > 0))then((idx I (W64 (G - 1))).bind fun Y=>some (decide (J<=Y)))else some false)).bind fun Z=>(bif Z then some (.ret false)else some (.next (W64 (G + 1))))))else some (.done G))
def DL(N:Nat)(G:(List Int)):Option Bool:=
 ((AF (Hq N G) N 0).bind fun o=>o.k (fun r=>some r) (fun h0=>some (decide ((G.length:Int)<=16))))
theorem KV(N:Nat)(w0:World)(F0:Mem)(hF:AcR w0 F0)(G:(List Int))(Z:AcQ)(O:Nat)(bk:LC G.length O)(hb:SlA AO F0 Z G)(r:Bool)(h:DL N G=some r):
  cA 80 [sL Z G O] w0 F0 (.bool r):=by
 have hc:=Acv hF;refine Go 32 Tryz.func80<|sR [0]<|Vs 1<|Nss<|sR [0,1,2]<|Vs 3<|Nt ?_;obtain⟨h5,hg,h6⟩:=bS h;refine AcA (fun f w=>∃(h7:Int)(F2:_),h5=.done h7/\HS w0 F0 w F2 []/\Acs F0 F2/\FI f [] [(0,(sL Z G O))]) ?_ ?_
 ·refine Bk<|Acr (by kernel_rfl) (fun m f w=>∃(Y:Int)(F1:Mem),AF (Hq N G) m Y=some h5/\HS w0 F0 w F1 []/\Acs F0 F1/\FI f [] [(0,(sL Z G O)),(5,(sL Z G O)),(6,(vi (G.length:Int))),(7,(vi Y))]) N ⟨0,F0,hg,hc,Acu _,fI⟩ ?_;rintro bl f hh ⟨Y,F1,hm,h0,h3,⟨_,rfl⟩⟩;obtain⟨hn,bm,rfl,ho,h4⟩:=AB hm;refine sR [0]<|Vs 1<|Nss<|Cd ho (fun hp hq=>?_) (fun hp hr=>?_)
  ·refine Sc<|Ab<|Sq<|Bk<|sR (rG 5)<|Vs 1 ?_;obtain⟨ht,hu,hw⟩:=bS hq;obtain⟨hx,hx49'⟩:=Ag hu;obtain⟨h8,h9,bn,bo,bp,rfl,hF58,hE59⟩:=AcB (Acw hb h3) hx49';have hy:=hE59 _ _ hx49';refine Ix hx<|Lx 0 (h0.pers _ _ hF58) hy<|Vs 2<|nR (rG 16) ?_;obtain⟨hz,b0,b1⟩:=bS hw;refine Acz (kP w0 F0 F1 [] [] [(0,(sS h8 h9 G O)),(5,(sS h8 h9 G O)),(6,(vi (G.length:Int))),(7,(vi Y)),(27,(.bool hz))]) ?_ ?_
   ·refine Vs 1 ?_;obtain⟨bq,b2,b3⟩:=bS b0;refine Cl' (cO 73) h0 (A0 N hh F1 h0.pers ht 1 20000 _ b2) ?_;rintro _ F4 br h1 h2 rfl;refine Vs 2<|Sp b3 (fun I b4=>?_) (fun I b5=>?_)
    ·refine Ss I 3<|Su' 7<|Ss I 1<|Pk1 I ?_;obtain rfl:=Aa b4;exact Aco ⟨rfl,F4,h1,h2,fI⟩
    ·refine Vgs I 3<|Sp b5 (fun J b6=>?_) (fun J b7=>?_)
     ·refine Vgs J 4 ?_;obtain⟨bs,b8,b9⟩:=bS b6;obtain⟨ba,hx89'⟩:=Ag b8;have bb:=hE59 _ _ hx89';refine Ixg J ba<|Lxg J 0 (h1.pers _ _ (h2 _ _ hF58)) bb<|Vgs J 1<|Pg1 I J<|Pk0 I ?_;obtain rfl:=Aa b9;exact Aco ⟨rfl,F4,h1,h2,fI⟩
     ·refine Ss J 7<|Pg0 I J<|Pk0 I ?_;obtain rfl:=Aa b7;exact Aco ⟨rfl,F4,h1,h2,fI⟩
   ·rintro f bt ⟨F3,ha,bc,⟨_,rfl⟩⟩;refine Ab<|Cd b1 (fun bd be=>?_) (fun bd bf=>?_)
    ·refine sR [0]<|Vs 1<|Nt<|Rt<|Ar<|Ad<|Ad<|Ar ?_;have hret:=Bf be h4;subst hret;refine .inr<|Ad ?_;obtain rfl:=Aa h6;exact Re [bF] ha rfl
    ·refine Sc<|Am<|Ab<|Rg [0,1]<|Vs 2<|Aco ?_;have bg:=Ay bf h4;exact⟨hn,xF _,W64 (Y + 1),F3,bg,ha,h3.t bc,fI⟩
  ·refine Ex<|Ak<|Ak<|Av rfl ?_;have bh:=AA hr h4;exact .inl ⟨rfl,Y,F1,bh,h0,h3,fI⟩
 ·rintro f bu ⟨h7,F2,rfl,bi,bv,⟨_,rfl⟩⟩;have bj:=AW h6;refine Ab<|sR (rG 4)<|Vs 4<|Nt<|Rt ?_;obtain rfl:=Aa bj;exact Re [.bool (decide ((G.length:Int)<=16))] bi rfl
def MW(N:Nat)(I:Ac)(J:Log)(h0 h1 h2 h3 h4:Bool):Int->Option (A2 (Int×Int) Int):=fun G=>
 (bif(decide (G < (J.Lines.length:Int)))then((idx J.Lines G).bind fun O=>(((DY N (lY I) O).bind fun Y=>bif(!Y)then none else(bif(decide (G > 0))then none else some ())).bind fun h5=>some (.next (W64 (G + 1)))))else some (.done G))
def KG(N:Nat)(x0:Ac)(G:Log):Option (Int×Int):=
 (bif((decide ((G.Jumps.length:Int) > 16))||(decide ((G.Lines.length:Int) > 400)))then none else((HA N G.Call).bind fun I=>bif(!I)then none else((Bb N G.Category 1 9).bind fun J=>bif(!J)then none else((Bb N G.Power 1 9999).bind fun O=>bif(!O)then none else((Bb N G.Claimed 0 1000000).bind fun Y=>bif(!Y)then none else((DL N G.Jumps).bind fun Z=>bif(!Z)then none else((AF (MW N x0 G I J O Y Z) N 0).bind fun o=>o.k (fun r=>some r) (fun h0=>some (0,0)))))))))
theorem KW(N:Nat)(w0:World)(F0:Mem)(hF:AcR w0 F0)(hG:BH F0)(I:Ac)(G:Log)(Z:AcQ)(h0:Nat)(b5:LC G.Jumps.length h0)(b6:SlA AO F0 Z G.Jumps)(h3:AcQ)(O:Nat)(db:LC G.Lines.length O)(b7:SlA AR F0 h3 G.Lines)(r:(Int×Int))(h:KG N I G=some r):
  cA 23 [.agg (Ah I),.agg (AM G Z h0 h3 O)] w0 F0 (.tuple #[vi r.1,vi r.2]):=by
 have b8:=Acv hF;refine Go 89 Tryz.func23<|sR (rG 4)<|Bx' 23 (Ah I) b8 (fun h1 dc b9=>?_);refine Bx' 27 (AM G Z h0 h3 O) b9 (fun h2 dd ha=>?_);refine Vs 2<|Nss<|sR (rG 10)<|Acz (kP w0 F0 F0 [sb h2 (AM G Z h0 h3 O) 27,sb h1 (Ah I) 23] [] [(2,(pt h1 0)),(3,(pt h2 0)),(17,(.bool ((decide ((G.Jumps.length:Int) > 16))||(decide ((G.Lines.length:Int) > 400)))))]) ?_ ?_
 ·refine Vs 1<|Ld ha.at0<|Vs 3<|Acy (decide ((G.Jumps.length:Int) > 16)) (fun Y=>?_) (fun Y=>?_)
  ·refine Ss Y 4<|Pk1 Y ?_;exact Aco ⟨rfl,F0,ha,Acu _,fJ ⟨rfl,rfl,congrArg Value.bool (Ej Y rfl),trivial⟩⟩
  ·refine Vgs Y 1<|Lg Y ha.at0<|Vgs Y 2<|Pk0 Y ?_;exact Aco ⟨rfl,F0,ha,Acu _,fJ ⟨rfl,rfl,congrArg Value.bool (Ch Y rfl),trivial⟩⟩
 ·rintro f ba ⟨F1,hb,hc,⟨_,rfl⟩⟩;refine Ab<|Cd h (fun bb bc=>?_) (fun bb bd=>?_)
  ·cases bc
  ·refine Sc<|Ab<|Sq<|sR (rG 28)<|Vs 1<|Ld hb.at0 ?_;obtain⟨be,bf,bg⟩:=bS bd;refine Cl' Hj hb (Ib N ba F1 hb.pers (hG.mono hc) G.Call _ bf) ?_;rintro _ F2 bh hg hw rfl;refine Vs 2<|Sp bg (fun h4 bi=>?_) (fun h4 bj=>?_)
   ·cases bi
   ·refine Vgs h4 1<|Lg h4 hg.at0 ?_;obtain⟨bk,bl,bm⟩:=bS bj;refine Cg h4 (cO 73) hg (A0 N bh F2 hg.pers G.Category 1 9 _ bl) ?_;rintro _ F3 bn hh hx rfl;refine Vgs h4 1<|Pk0 h4<|Vs 1<|Sp bm (fun h5 bo=>?_) (fun h5 bp=>?_)
    ·cases bo
    ·refine Vgs h5 1<|Lg h5 hh.at0 ?_;obtain⟨bq,br,bs⟩:=bS bp;refine Cg h5 (cO 73) hh (A0 N bn F3 hh.pers G.Power 1 9999 _ br) ?_;rintro _ F4 bt hm hy rfl;refine Vgs h5 1<|Pk0 h5<|Vs 1<|Sp bs (fun h6 bu=>?_) (fun h6 bv=>?_)
     ·cases bu
     ·refine Vgs h6 1<|Lg h6 hm.at0 ?_;obtain⟨bw,bx,bz⟩:=bS bv;refine Cg h6 (cO 73) hm (A0 N bt F4 hm.pers G.Claimed 0 1000000 _ bx) ?_;rintro _ F5 c0 hn hz rfl;refine Vgs h6 1<|Pk0 h6<|Vs 1<|Sp bz (fun h7 c1=>?_) (fun h7 c3=>?_)
      ·cases c1
      ·refine Vgs h7 1<|Lg h7 hn.at0 ?_;obtain⟨c4,c5,c6⟩:=bS c3;refine Cg h7 (cO 80) hn (KV N c0 F5 hn.pers G.Jumps Z h0 b5 (Acw b6 ((((hc.t hw).trans hx).trans hy).trans hz)) _ c5) ?_;rintro _ F6 de b0 c7 rfl;refine Vgs h7 1<|Pk0 h7<|Nt<|Cd c6 (fun c8 c9=>?_) (fun c8 ca=>?_)
       ·cases c9
       ·refine Sc<|Ab<|Sq<|sR (rG 4)<|Vs 1<|Ld b0.at0<|Vs 2<|Nt ?_;obtain⟨b1,cb,cc⟩:=bS ca;refine AcA (fun f w=>∃(b2:Int)(F8:_),b1=.done b2/\HS w0 F0 w F8 []/\Acs F6 F8/\FI f [] []) ?_ ?_
        ·refine Bk<|Acr (by kernel_rfl) (fun m f w=>∃(J:Int)(F7:Mem),AF (MW N I G be bk bq bw c4) m J=some b1/\HS w0 F0 w F7 [sb h2 (AM G Z h0 h3 O) 27,sb h1 (Ah I) 23]/\Acs F6 F7/\FI f [] [(2,(pt h1 0)),(3,(pt h2 0)),(47,(sL h3 G.Lines O)),(48,(vi (G.Lines.length:Int))),(49,(vi J))]) N ⟨0,F6,cb,b0,Acu _,fI⟩ ?_;rintro df f dg ⟨J,F7,cd,ho,hp,⟨_,rfl⟩⟩;obtain⟨ce,dh,rfl,cf,b3⟩:=AB cd;refine sR [0]<|Vs 1<|Nss<|Cd cf (fun cg ch=>?_) (fun cg ci=>?_)
         ·refine Sc<|Ab<|Sq<|Bk<|sR (rG 6)<|Vs 1 ?_;obtain⟨hr,cj,cl⟩:=bS ch;obtain⟨cm,hx121'⟩:=Ag cj;obtain⟨ht,hu,di,dj,dk,rfl,hF130,hE131⟩:=AcB (Acw b7 ((((((hc.t hw).trans hx).trans hy).trans hz).trans c7).trans hp)) hx121';have cn:=hE131 _ _ hx121';refine Ix cm<|Lx 0 (ho.pers _ _ hF130) cn<|Al' 34 zA ho (fun co dl cp=>?_);refine Vs 1<|St0 (Cj hr) cp (fun dm cq=>?_);refine Nss ?_;obtain⟨dn,cr,ct⟩:=bS cl;refine RD 32 32 [sb co (Cj hr) 34,sb h2 (AM G Z h0 (some ⟨ht,hu,none⟩) O) 27,sb h1 (Ah I) 23] [] cq (kP w0 F0 F7 [sb h2 (AM G Z h0 (some ⟨ht,hu,none⟩) O) 27,sb h1 (Ah I) 23] [] [(2,(pt h1 0)),(3,(pt h2 0)),(6,(vi J)),(47,(sS ht hu G.Lines O)),(48,(vi (G.Lines.length:Int))),(49,(vi J)),(85,bF)]) (fun cu b4=>?_) ?_
          ·refine Dl 0 (fun _ hq=>hq.1.2 2 _ _ rfl) ?_;refine Dl 1 (fun _ hq=>hq.1.2 0 _ _ rfl)<|D1 2 ?_;obtain⟨dp,cv,cw⟩:=bS cr;refine DCl (cO 21) b4 (Kr N cu F7 b4.pers (lY I) hr _ cv) ?_;rintro _ cx dq cy cz rfl;refine Dvl [3,4] (tf 5 27)<|Sd cw (fun h8 d0=>?_) (fun h8 d1=>?_)
           ·cases d0
           ·refine Dgl 5 59 3 _ (tf 6 26) 4 false 58 h8 (fun _ hq=>mv 6 (vi J)) ?_;refine Dgl 6 60 4 (.bool (decide (J > 0))) (tf 7 25) 4 false 58 h8 (fun _ hq=>NV (t:=3) (t':=3) (x:=.tmp 59) (y:=.const (vi 0)) (k:=.i64) (a:=J) (b:=0) rfl rfl)<|Dgl 7 61 4 _ (tf 8 24) 4 false 58 h8 (fun _ hq=>mv 60 (.bool (decide (J > 0))))<|Sd d1 (fun h9 d2=>?_) (fun h9 d3=>?_)
            ·cases d2
            ·refine Dkl [(8,62),(9,63),(10,64),(11,65),(12,66),(13,67)] 7 true 61 h9 (tf 14 18)<|Dkl [(14,68),(15,69),(16,70),(17,71),(18,72)] 7 true 61 h9 (tf 19 13)<|Dul [(19,73),(20,74),(21,75),(22,76),(23,77),(24,78)] 18 false 72 (tf 25 7)<|Dul [(25,79),(26,80),(27,81),(28,82)] 18 false 72 (tf 29 3)<|Dkl [(29,83)] 7 true 61 h9 (tf 30 2)<|Dgl 30 84 4 _ (tf 31 1) 4 false 58 h8 (fun _ hq=>p0 61 (.tmp 83) (.const bF) bF h9)<|Dtl 31 85 4 _ (tf 32 0) (fun _ hq=>p0 58 (.const bT) (.tmp 84) bF h8) ?_;obtain rfl:=Aa d3;exact AcG (by kernel_rfl) ⟨cx,cy.dr0,cz,fI⟩
          ·rintro f dr ⟨F9,d4,d6,⟨_,rfl⟩⟩;refine Ab<|C0 rF<|Sc<|Am<|Ab<|Rg [0,1]<|Vs 2<|Aco ?_;have d7:=Ay ct b3;exact⟨ce,xF _,W64 (J + 1),F9,d7,d4,hp.t d6,fI⟩
         ·refine Ex<|Ak<|Ak<|Av rfl ?_;have d8:=AA ci b3;exact .inl ⟨rfl,J,F7,d8,ho.dr0.dr0,hp,fI⟩
        ·rintro f ds ⟨b2,F8,rfl,d9,dt,⟨_,rfl⟩⟩;have da:=AW cc;refine Ab<|sR [0,1]<|Vs 2<|Nt<|Rt ?_;obtain rfl:=Aa da;exact Re [vi 0,vi 0] d9 rfl
def GM(N:Nat)(I:(List Int)):Int->Option (A2 Bool Int):=fun G=>
 (bif(decide (G < (I.length:Int)))then(((idx I G).bind fun J=>((BC N J 1 20000).bind fun O=>bif(!O)then some true else(bif(decide (G > 0))then((idx I G).bind fun Y=>((idx I (W64 (G - 1))).bind fun Z=>some (decide (Y<=Z))))else some false))).bind fun h0=>(bif h0 then some (.ret false)else some (.next (W64 (G + 1)))))else some (.done G))
def Jl(N:Nat)(G:(List Int)):Option Bool:=
 ((AF (GM N G) N 0).bind fun o=>o.k (fun r=>some r) (fun h0=>some (decide ((G.length:Int)<=16))))
theorem SJ(N:Nat)(w0:World)(F0:Mem)(hF:AcR w0 F0)(J:(List Int))(h1:AcQ)(Y:Nat)(bs:LC J.length Y)(hh:SlA AO F0 h1 J)(r:Bool)(h:Jl N J=some r):
  cA 145 [sL h1 J Y] w0 F0 (.bool r):=by
 have hm:=Acv hF;refine Go 35 Tryz.func145<|sR [0]<|Vs 1<|Nss<|sR [0]<|Vs 1<|Nt ?_;obtain⟨h8,hn,h9⟩:=bS h;refine AcA (fun f w=>∃(ha:Int)(F2:_),h8=.done ha/\HS w0 F0 w F2 []/\Acs F0 F2/\FI f [] [(0,(sL h1 J Y))]) ?_ ?_
 ·refine Bk<|Acr (by kernel_rfl) (fun m f w=>∃(G:Int)(F1:Mem),AF (GM N J) m G=some h8/\HS w0 F0 w F1 []/\Acs F0 F1/\FI f [] [(0,(sL h1 J Y)),(3,(vi G))]) N ⟨0,F0,hn,hm,Acu _,fI⟩ ?_;rintro bt f bu ⟨G,F1,ho,hb,h4,⟨_,rfl⟩⟩;obtain⟨hp,bv,rfl,hr,h5⟩:=AB ho;refine Sq<|sR (rG 4)<|Vs 4<|Nt<|Cd hr (fun ht hu=>?_) (fun ht hw=>?_)
  ·refine Sc<|Ab<|Sq<|Bk<|Sq ?_;obtain⟨hx,hy,hz⟩:=bS hu;refine RD 22 22 [] [] hb (kP w0 F0 F1 [] [] [(0,(sL h1 J Y)),(3,(vi G)),(31,(.bool hx))]) (fun b0 hc=>?_) ?_
   ·refine Dvl [0,1] (tf 2 20) ?_;obtain⟨b1,b2,b3⟩:=bS hy;obtain⟨b4,hx59'⟩:=Ag b2;obtain⟨Z,h0,bw,bx,bz,rfl,hF68,hE69⟩:=AcB (Acw hh h4) hx59';have b5:=hE69 _ _ hx59';refine Di 2 b4<|Dx 3 0 (fun _ hq=>hq.1.1 _ _ hF68) b5<|D1 4 ?_;obtain⟨c0,b6,b7⟩:=bS b3;refine DCl (cO 76) hc (BM N b0 F1 hc.pers b1 1 20000 _ b6) ?_;rintro _ F4 c1 h6 h7 rfl;refine Dvl [5,6] (tf 7 15)<|Sd b7 (fun O b8=>?_) (fun O b9=>?_)
    ·refine Dkl [(7,17),(8,18),(9,19)] 6 false 16 O (tf 10 12)<|Dul [(10,20),(11,21),(12,22),(13,23),(14,24),(15,25)] 9 true 19 (tf 16 6)<|Dul [(16,26),(17,27),(18,28),(19,29)] 9 true 19 (tf 20 2)<|Dkl [(20,30)] 6 false 16 O (tf 21 1)<|Dtl 21 31 4 _ (tf 22 0) (fun _ hq=>p1 16 (.const bT) (.tmp 30) bT O) ?_;obtain rfl:=Aa b8;exact AcG (by kernel_rfl) ⟨F4,h6,h7,fI⟩
    ·refine Dgl 7 17 3 _ (tf 8 14) 6 false 16 O (fun _ hq=>mv 3 (vi G)) ?_;refine Dgl 8 18 4 (.bool (decide (G > 0))) (tf 9 13) 6 false 16 O (fun _ hq=>NV (t:=3) (t':=3) (x:=.tmp 17) (y:=.const (vi 0)) (k:=.i64) (a:=G) (b:=0) rfl rfl)<|Dgl 9 19 4 _ (tf 10 12) 6 false 16 O (fun _ hq=>mv 18 (.bool (decide (G > 0))))<|Sd b9 (fun I ba=>?_) (fun I bb=>?_)
     ·refine Dgl 10 20 24 _ (tf 11 11) 9 true 19 I (fun _ hq=>mv 0 (sS Z h0 J Y)) ?_;refine Dgl 11 21 3 _ (tf 12 10) 9 true 19 I (fun _ hq=>mv 3 (vi G)) ?_;obtain⟨h2,bc,bd⟩:=bS ba;obtain⟨be,hx87'⟩:=Ag bc;have bf:=hE69 _ _ hx87';refine Dgl 12 22 0 (.pointer (some ⟨Z,h0 + (G:Int).toNat * 1,none⟩)) (tf 13 9) 9 true 19 I (fun _ hq=>ix 24 20 21 Z h0 3 1 8 be)<|Dgl 13 23 3 _ (tf 14 8) 9 true 19 I (fun _ hq=>lx 3 22 0 1 false 1 (vi h2) (hq.1.1 _ _ hF68) bf)<|Dgl 14 24 24 _ (tf 15 7) 9 true 19 I (fun _ hq=>mv 0 (sS Z h0 J Y))<|Dgl 15 25 3 _ (tf 16 6) 9 true 19 I (fun _ hq=>mv 3 (vi G))<|Dgl 16 26 3 (vi (W64 (G - 1))) (tf 17 5) 9 true 19 I (fun _ hq=>Kw (t:=3) (t':=3) (x:=.tmp 25) (y:=.const (vi 1)) (k:=.i64) (a:=G) (b:=1) rfl rfl) ?_;obtain⟨h3,bg,bh⟩:=bS bd;obtain⟨bi,hx93'⟩:=Ag bg;have bj:=hE69 _ _ hx93';refine Dgl 17 27 0 (.pointer (some ⟨Z,h0 + ((W64 (G - 1)):Int).toNat * 1,none⟩)) (tf 18 4) 9 true 19 I (fun _ hq=>ix 24 24 26 Z h0 3 1 8 bi)<|Dgl 18 28 3 _ (tf 19 3) 9 true 19 I (fun _ hq=>lx 3 27 0 1 false 1 (vi h3) (hq.1.1 _ _ hF68) bj)<|Dgl 19 29 4 (.bool (decide (h2<=h3))) (tf 20 2) 9 true 19 I (fun _ hq=>NT (t:=3) (t':=3) (x:=.tmp 23) (y:=.tmp 28) (k:=.i64) (a:=h2) (b:=h3) rfl rfl)<|Dgl 20 30 4 _ (tf 21 1) 6 false 16 O (fun _ hq=>p1 19 (.tmp 29) (.const bF) (.bool (decide (h2<=h3))) I)<|Dtl 21 31 4 _ (tf 22 0) (fun _ hq=>p0 16 (.const bT) (.tmp 30) (.bool (decide (h2<=h3))) O) ?_;obtain rfl:=Aa bh;exact AcG (by kernel_rfl) ⟨F4,h6,h7,fI⟩
     ·refine Dkl [(10,20),(11,21),(12,22),(13,23),(14,24),(15,25)] 9 true 19 I (tf 16 6)<|Dkl [(16,26),(17,27),(18,28),(19,29)] 9 true 19 I (tf 20 2)<|Dgl 20 30 4 _ (tf 21 1) 6 false 16 O (fun _ hq=>p0 19 (.tmp 29) (.const bF) bF I)<|Dtl 21 31 4 _ (tf 22 0) (fun _ hq=>p0 16 (.const bT) (.tmp 30) bF O) ?_;obtain rfl:=Aa bb;exact AcG (by kernel_rfl) ⟨F4,h6,h7,fI⟩
   ·rintro f c3 ⟨F3,hg,bk,⟨_,rfl⟩⟩;refine Ab<|Cd hz (fun bl bm=>?_) (fun bl bn=>?_)
    ·refine sR [0]<|Vs 1<|Nt<|Rt<|Ar<|Ad<|Ad<|Ar ?_;have hret:=Bf bm h5;subst hret;refine .inr<|Ad ?_;obtain rfl:=Aa h9;exact Re [bF] hg rfl
    ·refine Sc<|Am<|Ab<|Rg [0,1,2]<|Vs 3<|Aco ?_;have bo:=Ay bn h5;exact⟨hp,xF _,W64 (G + 1),F3,bo,hg,h4.t bk,fI⟩
  ·refine Ex<|Ak<|Ak<|Av rfl ?_;have bp:=AA hw h5;exact .inl ⟨rfl,G,F1,bp,hb,h4,fI⟩
 ·rintro f c4 ⟨ha,F2,rfl,bq,c5,⟨_,rfl⟩⟩;have br:=AW h9;refine Ab<|sR (rG 4)<|Vs 4<|Nt<|Rt ?_;obtain rfl:=Aa br;exact Re [.bool (decide ((J.length:Int)<=16))] bq rfl


def MU(N:Nat)(G:Ac)(I:Log):Option Bool:=
 ((KG N (lY G) I).bind fun J=>some (J.1==0))
theorem Qm(N:Nat)(w0:World)(F0:Mem)(hF:AcR w0 F0)(hG:BH F0)(I:Ac)(G:Log)(J:AcQ)(O:Nat)(h1:LC G.Jumps.length O)(h2:SlA AO F0 J G.Jumps)(Y:AcQ)(Z:Nat)(h3:LC G.Lines.length Z)(h4:SlA AR F0 Y G.Lines)(r:Bool)(h:MU N I G=some r):
  cA 25 [.agg (Ah I),.agg (AM G J O Y Z)] w0 F0 (.bool r):=by
 have h5:=Acv hF;refine Go 15 Tryz.func25<|sR [0,1,2]<|Bx' 23 (Ah I) h5 (fun hc hg h6=>?_);refine Bx' 27 (AM G J O Y Z) h6 (fun hh h7 h0=>?_);refine Vs 1<|nR (rG 8)<|Ld h0.at1<|Ld h0.at0 ?_;obtain⟨h8,h9,ha⟩:=bS h;refine Cl' (cO 23) h0 (KW N h7 F0 h0.pers hG (lY I) G J O h1 h2 Y Z h3 h4 _ h9) ?_;rintro _ F1 hm hb hn rfl;refine Vs 5<|nR [0,1,2]<|Vs 3<|Nt<|Rt ?_;obtain rfl:=Aa ha;exact Re [.bool (h8.1==0)] hb rfl



section
theorem DQ{ρ σ:Type}{body:σ->Option (A2 ρ σ)}(st:Nat->σ){o:A2 ρ σ}(k:Nat)(hb:∀ i,i < k->body (st i)=some (.next (st (i + 1))))(he:body (st k)=some o)(ho:∀ s',o≠.next s'){N:Nat}(hN:k < N):AF body N (st 0)=some o:=by
 have key:∀ j i M,i + j=k->j < M->AF body M (st i)=some o:=by
  intro j
  induction j with
  | zero=>
   intro i M hi hM;obtain⟨m,rfl⟩:∃ m,M=m + 1:=⟨M - 1,by omega⟩;rw[vM]at hi;subst hi;rw[AF,he];cases o with
   | next s=>exact absurd rfl (ho s)
   | done s=>rfl
   | ret r=>rfl
  | succ j ih=>
   intro i M hi hM;obtain⟨m,rfl⟩:∃ m,M=m + 1:=⟨M - 1,by omega⟩;rw[AF,hb i (by omega)];exact ih (i + 1) m (by omega) (by omega)
 exact key k 0 N (by omega) hN
section
variable {N:Nat}
theorem lw(a b c:Int):Bb N a b c=some (decide (b<=a)&&decide (a<=c)):=rfl
theorem rw2(a b c:Int):BC N a b c=some (decide (b<=a)&&decide (a<=c)):=rfl
theorem Vn(b:UInt8):W64 (b.toNat:Int)=(b.toNat:Int):=by
 have:=b.toNat_lt;exact A4 (by omega) (by omega)
theorem W2(b:UInt8):Qj b=((decide (65<=(b.toNat:Int))&&decide ((b.toNat:Int)<=90))||((decide (48<=(b.toNat:Int))&&decide ((b.toNat:Int)<=57))||((b.toNat:Int)==47))):=by
 have G:isL b=(decide (65<=(b.toNat:Int))&&decide ((b.toNat:Int)<=90)):=by
  unfold isL;congr 1 <;> (rw[decide_eq_decide];omega)
 have I:isD b=(decide (48<=(b.toNat:Int))&&decide ((b.toNat:Int)<=57)):=by
  unfold isD;congr 1 <;> (rw[decide_eq_decide];omega)
 have J:(b==47)=((b.toNat:Int)==47):=by
  rw[wD,beq_iff_eq,beq_iff_eq];constructor
  ·rintro rfl;rfl
  ·intro h;have:b.toNat=47:=by omega
   exact wG.1 this
 unfold Qj;rw[G,I,J,Bool.or_assoc]
theorem Aaj(s:AcP)(hs:s.length < 4000000000)(hN:4294967300 < N):KE N s=some (H6 s):=by
 unfold KE;rw[lw,oS,show(decide ((1:Int)<=(s.length:Int))&&decide ((s.length:Int)<=(16:Int)))=wiB s.length 1 16 from Kv _ 1 16];have h:=DQ (body:=FR N s (wiB s.length 1 16)) (fun i=>(wiB s.length 1 16&&(s.take i).all Qj,(i:Int))) (o:=.done (H6 s,(s.length:Int))) s.length (fun i hi=>by
  unfold FR;simp only;rw[BB hi,cT,DU hi,oS,Cx i (by omega),Vn,xV,xA hi,zB];simp only[Option.toList_some,zZ,List.all_nil,Bool.and_true];rw[W2 s[i],<-Bool.and_assoc];cases wiB s.length 1 16&&(s.take i).all Qj with
  | false=>rfl
  | true=>
   rw[cT,lw,oS,lw];cases(decide (65<=(s[i].toNat:Int))&&decide ((s[i].toNat:Int)<=90))with
   | true=>rfl
   | false=>
    rw[cF,oS];cases(decide (48<=(s[i].toNat:Int))&&decide ((s[i].toNat:Int)<=57))with
    | true=>rfl
    | false=>rfl) (by
  unfold FR;simp only;rw[BE,cF,xS];rfl) (fun s' h=>by cases h) (N:=N) (by omega)
 rw[show(wiB s.length 1 16,(0:Int))=(wiB s.length 1 16&&(s.take 0).all Qj,((0:Nat):Int))by simp,h];rfl
theorem Z1(s:AcP)(hs:s.length < 4000000000)(hN:4294967300 < N):Jm N s=some (H6 s):=by
 unfold Jm H6;have e:((decide ((s.length:Int) < 1))||(decide ((s.length:Int) > 16)))= !wiB s.length 1 16:=by
  unfold wiB;rw[Bool.not_and,<-decide_not,<-decide_not];congr 1 <;> (rw[decide_eq_decide];omega)
 rw[e];cases hw:wiB s.length 1 16 with
 | false=>rfl
 | true=>
  rw[xO,cF,yS];rw[O4 (l:=s) Qj false (fun i hi=>by
   unfold GO;rw[BB hi,cT,DU hi,oS,Cx i (by omega)];have e:FX N (s[i].toNat:Int)=some (Qj s[i]):=by
    rw[W2];unfold FX;simp only[ge_iff_le];cases decide (65<=(s[i].toNat:Int)) <;> cases decide ((s[i].toNat:Int)<=90) <;> cases decide (48<=(s[i].toNat:Int)) <;> cases decide ((s[i].toNat:Int)<=57) <;> cases((s[i].toNat:Int)==47) <;> rfl
   rw[e,oS];cases Qj s[i] <;> rfl) (by
   unfold GO;rw[BE,cF]) (by omega)]
  cases s.all Qj <;> rfl
def XL(x:Line):Prop:=x.Call.length < 4000000000
theorem X0(o:Ac)(x:Line):Cy o x=((decide (1<=x.Num)&&decide (x.Num<=65535))&&((decide (1<=x.Khz)&&decide (x.Khz<=10000000))&&((decide (1<=x.Mode)&&decide (x.Mode<=3))&&((decide (0<=x.Minute)&&decide (x.Minute<=20000))&&(H6 x.Call&&(CR o x.Sent&&CR o x.Got)))))):=by
 unfold Cy;simp only[vE]
theorem Aap(o:Ac)(x:Line)(hx:XL x)(hN:4294967300 < N):DY N o x=some (Cy o x):=by
 unfold DY;rw[X0,lw,lw,lw,lw,Aaj x.Call hx hN];simp only[oS];rw[QS _ _ hN,QS _ _ hN];simp only[oS];show _=some _;generalize (decide (1<=x.Num)&&decide (x.Num<=65535))=a;generalize (decide (1<=x.Khz)&&decide (x.Khz<=10000000))=b;generalize (decide (1<=x.Mode)&&decide (x.Mode<=3))=c;generalize (decide (0<=x.Minute)&&decide (x.Minute<=20000))=d;generalize H6 x.Call=e;cases a <;> cases b <;> cases c <;> cases d <;> cases e <;> first | rfl | (simp only[cT,cF,yS];cases CR o x.Sent <;> rfl)
theorem Ww(o:Ac)(x:Line)(hx:XL x)(hN:4294967300 < N):Do N o x=some (Cy o x):=by
 unfold Do;rw[X0,rw2,rw2,rw2,rw2,Z1 x.Call hx hN];simp only[oS];rw[OQ,OQ];simp only[oS];generalize (decide (1<=x.Num)&&decide (x.Num<=65535))=a;generalize (decide (1<=x.Khz)&&decide (x.Khz<=10000000))=b;generalize (decide (1<=x.Mode)&&decide (x.Mode<=3))=c;generalize (decide (0<=x.Minute)&&decide (x.Minute<=20000))=d;generalize H6 x.Call=e;cases a <;> cases b <;> cases c <;> cases d <;> cases e <;> first | rfl | (simp only[cT,cF,yS,xO,zN,oS];cases CR o x.Sent <;> rfl)
def okJ(l:List Int)(i:Nat):Bool:=match l[i]? with
 | some x=>decide (1<=x/\x<=20000)&&(decide (i=0)||match l[i - 1]? with
  | some y=>decide (y < x)
  | none=>true)
 | none=>true
theorem Zq{n:Nat}{ok:Nat->Bool}:NL n ok=true ↔ ∀ i,i < n->ok i=true:=⟨fun h _ hi=>Zp h hi,W6⟩
theorem Abs:∀(l:List Int),XF l=true ↔ ∀ i,i < l.length->(i=0\/ ∃ x y,l[i]? =some x/\l[i - 1]? =some y/\y < x):=by
 intro l
 induction l with
 | nil=>simp[XF]
 | cons a r ih=>
  cases r with
  | nil=>
   simp only[XF,true_iff];intro i hi;exact .inl (by simpa using hi)
  | cons b r=>
   rw[XF,xB,ih,decide_eq_true_eq];constructor
   ·rintro⟨J,O⟩ i hi
    match i with
    | 0=>exact .inl rfl
    | 1=>exact .inr ⟨b,a,rfl,rfl,J⟩
    | i + 2=>
     rcases O (i + 1) (by simpa using hi)with h | ⟨x,y,G,I,h⟩
     ·omega
     ·exact .inr ⟨x,y,G,I,h⟩
   ·intro h;refine⟨?_,fun i hi=>?_⟩
    ·rcases h 1 (by simp)with h | ⟨x,y,G,I,h⟩
     ·omega
     ·cases G;cases I;exact h
    ·match i with
     | 0=>exact .inl rfl
     | i + 1=>
      rcases h (i + 2) (by simpa using hi)with h | ⟨x,y,G,I,h⟩
      ·omega
      ·exact .inr ⟨x,y,G,I,h⟩
theorem YV(l:List Int):Lm l=(NL l.length (okJ l)&&decide (l.length<=16)):=by
 unfold Lm;rw[<-Bool.and_assoc];congr 1;rw[wD,xB,Abs,Zq,xN];constructor
 ·rintro⟨O,Y⟩ i hi;unfold okJ;rw[xA hi];have:=O l[i] (xT hi);simp only[this,yS];rcases Y i hi with h | ⟨x,y,G,Z,h⟩
  ·rw[decide_eq_true h];rfl
  ·rw[xA hi]at G;cases G;rw[Z];simp[h]
 ·intro h;refine⟨fun x hx=>?_,fun i hi=>?_⟩
  ·obtain⟨i,hi,rfl⟩:=List.mem_iff_getElem.1 hx;have:=h i hi;unfold okJ at this;rw[xA hi]at this;simp only[xB]at this;exact this.1
  ·by_cases I:i=0
   ·exact .inl I
   ·have:=h i hi;unfold okJ at this;rw[xA hi]at this;have J:i - 1 < l.length:=by omega
    rw[xA J]at this;simp only[xB,decide_eq_false I,yR,decide_eq_true_eq]at this;exact .inr ⟨l[i],l[i - 1],xA hi,xA J,this.2⟩
theorem Qw(l:List Int)(hl:l.length < 4000000000)(hN:4294967300 < N):DL N l=some (Lm l):=by
 rw[YV];unfold DL;rw[PF (n:=l.length) (okJ l) false (fun i hi=>by
  unfold Hq;rw[BB hi,cT,AX hi,oS,lw,oS,Cx i (by omega)];unfold okJ;rw[xA hi];simp only[vE];cases(decide (1<=l[i])&&decide (l[i]<=20000))with
  | false=>rfl
  | true=>
   rw[xO,cF,yS];by_cases G:i=0
   ·subst G;rfl
   ·have I:i - 1 < l.length:=by omega
    rw[decide_eq_true (show(i:Int) > 0 by omega),cT,Xb i (by omega) (by omega),AX I,oS,xA I,decide_eq_false G,yR];simp only;rw[show decide (l[i]<=l[i - 1])= !decide (l[i - 1] < l[i])by rw[<-decide_not,decide_eq_decide];omega];cases decide (l[i - 1] < l[i]) <;> rfl) (by
  unfold Hq;rw[BE,cF]) (by omega)]
 cases NL l.length (okJ l)with
 | false=>rfl
 | true=>
  rw[cT,yS];congr 1;rw[decide_eq_decide];omega
theorem Z0(l:List Int)(hl:l.length < 4000000000)(hN:4294967300 < N):Jl N l=some (Lm l):=by
 rw[YV];unfold Jl;rw[PF (n:=l.length) (okJ l) false (fun i hi=>by
  unfold GM;rw[BB hi,cT,AX hi,oS,rw2,oS,Cx i (by omega)];unfold okJ;rw[xA hi];simp only[vE];cases(decide (1<=l[i])&&decide (l[i]<=20000))with
  | false=>rfl
  | true=>
   rw[xO,cF,yS];by_cases G:i=0
   ·subst G;rfl
   ·have I:i - 1 < l.length:=by omega
    rw[decide_eq_true (show(i:Int) > 0 by omega),cT,oS,Xb i (by omega) (by omega),AX I,oS,xA I,decide_eq_false G,yR];simp only;rw[show decide (l[i]<=l[i - 1])= !decide (l[i - 1] < l[i])by rw[<-decide_not,decide_eq_decide];omega];cases decide (l[i - 1] < l[i]) <;> rfl) (by
  unfold GM;rw[BE,cF]) (by omega)]
 cases NL l.length (okJ l)with
 | false=>rfl
 | true=>
  rw[cT,yS];congr 1;rw[decide_eq_decide];omega
end
end
def N8(N:Nat)(G:Log):Option AcP:=
 ((A5 ([67,65,76,76,32]:AcP) G.Call).bind fun I=>some I)
theorem Sh(N:Nat)(w0:World)(F0:Mem)(hF:AcR w0 F0)(G:Log)(I:AcQ)(J:Nat)(h4:LC G.Jumps.length J)(h5:SlA AO F0 I G.Jumps)(O:AcQ)(Y:Nat)(h6:LC G.Lines.length Y)(h7:SlA AR F0 O G.Lines)(r:AcP)(h:N8 N G=some r):
  cA 154 [.agg (AM G I J O Y)] w0 F0 (sv r):=by
 have h1:=Acv hF;refine Go 6 Tryz.func154<|sR [0,1]<|Bx' 27 (AM G I J O Y) h1 (fun h8 h9 Z=>?_);refine Vs 1<|nR (rG 4)<|Vs 1<|Ld Z.at0 ?_;obtain⟨h0,h2,h3⟩:=bS h;refine V 5 9 (aZ (.const (sv ([67,65,76,76,32]:AcP))) (.tmp 4) h2)<|Vs 1<|Nt<|Rt ?_;obtain rfl:=Aa h3;exact Re [sv h0] Z rfl
def IQ(N:Nat)(I:Log):(AcP×Int)->Option (A2 AcP (AcP×Int)):=fun G=>
 (bif(decide (G.2 < (I.Jumps.length:Int)))then((idx I.Jumps G.2).bind fun J=>((strconv_Itoa N J).bind fun O=>((A5 ([32]:AcP) O).bind fun Y=>((A5 G.1 Y).bind fun Z=>some (.next (Z,(W64 (G.2 + 1))))))))else some (.done (G.1,G.2)))
def K5(N:Nat)(G:Log):Option AcP:=
 ((AF (IQ N G) N (([74,85,77,80,83]:AcP),0)).bind fun o=>o.k (fun r=>some r) (fun I=>some I.1))
theorem OG(N:Nat)(w0:World)(F0:Mem)(hF:AcR w0 F0)(hG:BH F0)(G:Log)(J:AcQ)(O:Nat)(ba:LC G.Jumps.length O)(h8:SlA AO F0 J G.Jumps)(h1:AcQ)(h2:Nat)(bb:LC G.Lines.length h2)(bc:SlA AR F0 h1 G.Lines)(r:AcP)(h:K5 N G=some r):
  cA 160 [.agg (AM G J O h1 h2)] w0 F0 (sv r):=by
 have h9:=Acv hF;refine Go 20 Tryz.func160<|sR [0,1]<|Bx' 27 (AM G J O h1 h2) h9 (fun bd be h3=>?_);refine Vs 1<|nR [0]<|Vs 1<|Nss<|sR (rG 4)<|Vs 1<|Ld h3.at0<|Vs 2<|Nt ?_;obtain⟨h4,ha,hb⟩:=bS h;refine AcA (fun f w=>∃(Y:(AcP×Int))(F2:_),h4=.done Y/\HS w0 F0 w F2 []/\Acs F0 F2/\FI f [] [(3,(sv Y.1))]) ?_ ?_
 ·refine Bk<|Acr (by kernel_rfl) (fun m f w=>∃(I:(AcP×Int))(F1:Mem),AF (IQ N G) m I=some h4/\HS w0 F0 w F1 []/\Acs F0 F1/\FI f [] [(3,(sv I.1)),(7,(sL J G.Jumps O)),(8,(vi (G.Jumps.length:Int))),(9,(vi I.2))]) N ⟨(([74,85,77,80,83]:AcP),0),F0,ha,h3.dr0,Acu _,fI⟩ ?_;rintro bf f hc ⟨I,F1,hg,Z,h0,⟨_,rfl⟩⟩;obtain⟨hh,bg,rfl,hm,h5⟩:=AB hg;refine sR [0]<|Vs 1<|Nss<|Cd hm (fun hn ho=>?_) (fun hn hp=>?_)
  ·refine Sc<|Ab<|Sq<|Bk<|sR [0,1,2] ?_;obtain⟨hq,hr,ht⟩:=bS ho;obtain⟨hu,hx52'⟩:=Ag hr;obtain⟨bh,bi,bj,bk,bl,rfl,hF61,hE62⟩:=AcB (Acw h8 h0) hx52';have hw:=hE62 _ _ hx52';refine Ix hu<|Lx 0 (Z.pers _ _ hF61) hw<|Vs 1<|Nt<|Rg (rG 6)<|Vs 2 ?_;obtain⟨hx,hy,hz⟩:=bS ht;refine Cl' (cO 85) Z (Ba N hc F1 Z.pers (hG.mono h0) hq _ hy) ?_;rintro _ F3 bm b0 b1 rfl;obtain⟨h6,b2,b3⟩:=bS hz;refine V 16 9 (aZ (.const (sv ([32]:AcP))) (.tmp 15) b2) ?_;obtain⟨h7,b4,b5⟩:=bS b3;refine V 17 9 (aZ (.tmp 13) (.tmp 16) b4)<|Vs 1<|Aco<|Am<|Ab<|Rg [0,1]<|Vs 2<|Aco ?_;have b6:=Ay b5 h5;exact⟨hh,xF _,(h7,(W64 (I.2 + 1))),F3,b6,b0,h0.t b1,fI⟩
  ·refine Ex<|Ak<|Ak<|Av rfl ?_;have b7:=AA hp h5;exact .inl ⟨rfl,(I.1,I.2),F1,b7,Z,h0,fI⟩
 ·rintro f bn ⟨Y,F2,rfl,b8,bo,⟨_,rfl⟩⟩;have b9:=AW hb;refine Ab<|sR [0,1]<|Vs 2<|Nt<|Rt ?_;obtain rfl:=Aa b9;exact Re [sv Y.1] b8 rfl
def Ff(N:Nat)(I:Ac)(G:Line):Option (AcP×Int):=
 ((DY N (lY I) G).bind fun J=>bif(!J)then some (([]:AcP),1)else((DM N G.Minute).bind fun O=>((BG N (lY I) ({Report:=G.Sent.Report,Serial:=G.Sent.Serial,Zone:=G.Sent.Zone}:Af)).bind fun Y=>((BG N (lY I) ({Report:=G.Got.Report,Serial:=G.Got.Serial,Zone:=G.Got.Zone}:Af)).bind fun Z=>(((IE ([32,77,86,68]:AcP) G.Mode (W64 (G.Mode + 1))).bind fun h0=>((strconv_Itoa N G.Num).bind fun h1=>((strconv_Itoa N G.Khz).bind fun h2=>((strings_Join N ([([81,83,79]:AcP),h1,h2,h0,O.1,G.Call,([62]:AcP),Y.1,([60]:AcP),Z.1]) ([32]:AcP)).bind fun h3=>some h3)))).bind fun h4=>some (h4,0))))))
theorem Ks(N:Nat)(w0:World)(F0:Mem)(hF:AcR w0 F0)(hG:BH F0)(I:Ac)(G:Line)(r:(AcP×Int))(h:Ff N I G=some r):
  cA 27 [.agg (Ah I),.agg (Cj G)] w0 F0 (.tuple #[sv r.1,vi r.2]):=by
 have hp:=Acv hF;refine Go 55 Tryz.func27<|sR (rG 4)<|Bx' 23 (Ah I) hp (fun hr bx ht=>?_);refine Bx' 34 (Cj G) ht (fun hu hw Y=>?_);refine Vs 2<|Nss<|sR (rG 4)<|Ld Y.at1<|Ld Y.at0 ?_;obtain⟨bz,hx,hy⟩:=bS h;refine Cl' (cO 21) Y (Kr N hw F0 Y.pers (lY I) G _ hx) ?_;rintro _ F1 hz Z O rfl;refine Vs 1<|Nt<|Cd hy (fun b0 b1=>?_) (fun b0 b2=>?_)
 ·refine sR [0,1]<|Vs 2<|Nt<|Rt<|Ad ?_;obtain rfl:=Aa b1;exact Re [sE,vi 1] Z rfl
 ·refine Sc<|Ab<|sR (rG 8)<|Vs 1<|Ld Z.at0 ?_;obtain⟨h0,b3,b4⟩:=bS b2;refine Cl' (cO 82) Z (Lk N hz F1 Z.pers (hG.mono O) G.Minute _ b3) ?_;rintro _ F2 b5 h1 h2 rfl;refine Vs 5<|nR (rG 9)<|Ld h1.at1<|Vs 1<|Ld h1.at0 ?_;obtain⟨h3,b6,b7⟩:=bS b4;refine Cl' (cO 83) h1 (FL N b5 F2 h1.pers (hG.mono (O.t h2)) (lY I) ({Report:=G.Sent.Report,Serial:=G.Sent.Serial,Zone:=G.Sent.Zone}:Af) _ b6) ?_;rintro _ F3 b8 h4 h8 rfl;refine Vs 5<|nR (rG 9)<|Ld h4.at1<|Vs 1<|Ld h4.at0 ?_;obtain⟨h5,b9,ba⟩:=bS b7;refine Cl' (cO 83) h4 (FL N b8 F3 h4.pers (hG.mono ((O.t h2).trans h8)) (lY I) ({Report:=G.Got.Report,Serial:=G.Got.Serial,Zone:=G.Got.Zone}:Af) _ b9) ?_;rintro _ F4 c0 bb hb rfl;refine Vs 5<|Nss ?_;obtain⟨hc,bc,bd⟩:=bS ba;refine RD 21 21 [sb hu (Cj G) 34,sb hr (Ah I) 23] [] bb (kP w0 F0 F4 [] [] [(4,(sv hc)),(5,(vi 0))]) (fun be hg=>?_) ?_
  ·refine Dvl [0] (tf 1 20)<|Dl 1 (fun _ hq=>hq.1.2 0 _ _ rfl)<|Dvl [3] [tt,tt,ff,tt,ff,ff,ff,ff,ff,ff,ff,ff,ff,ff,ff,ff,ff,ff,ff,ff,ff]<|Dl 4 (fun _ hq=>hq.1.2 0 _ _ rfl)<|Dvl [6] [tt,tt,ff,tt,tt,ff,tt,ff,ff,ff,ff,ff,ff,ff,ff,ff,ff,ff,ff,ff,ff]<|Dl 7 (fun _ hq=>hq.1.2 0 _ _ rfl)<|Dvl [8] [tt,tt,ff,tt,tt,ff,tt,tt,tt,ff,ff,ff,ff,ff,ff,ff,ff,ff,ff,ff,ff]<|Dl 9 (fun _ hq=>hq.1.2 0 _ _ rfl)<|Dvl [10] [tt,tt,ff,tt,tt,ff,tt,tt,tt,tt,tt,ff,ff,ff,ff,ff,ff,ff,ff,ff,ff] ?_;obtain⟨J,bf,bg⟩:=bS bc;refine Dtl 11 47 9 (sv J) [tt,tt,ff,tt,tt,ff,tt,tt,tt,tt,tt,tt,ff,ff,ff,ff,ff,ff,ff,ff,ff] (fun _ hq=>DB (t:=9) (x:=.const (sv ([32,77,86,68]:AcP))) (lo:=some (.tmp 43)) (hi:=some (.tmp 46)) (a:=([32,77,86,68]:AcP)) (il:=G.Mode) (ih:=W64 (G.Mode + 1)) (v:=J) rfl (by kernel_rfl) rfl rfl bf)<|Dvl [12,13] [tt,tt,ff,tt,tt,ff,tt,tt,tt,tt,tt,tt,tt,tt,ff,ff,ff,ff,ff,ff,ff]<|Dl 14 (fun _ hq=>hq.1.2 0 _ _ rfl)<|Dvl [15,16] [tt,tt,ff,tt,tt,ff,tt,tt,tt,tt,tt,tt,tt,tt,tt,tt,tt,ff,ff,ff,ff]<|D1 2 ?_;obtain⟨h6,bh,bi⟩:=bS bg;refine DCl (cO 85) hg (Ba N be F4 hg.pers (hG.mono (((O.t h2).trans h8).trans hb)) G.Num _ bh) ?_;rintro _ F6 bj hh h9 rfl;refine D1 5 ?_;obtain⟨h7,bk,bl⟩:=bS bi;refine DCl (cO 85) hh (Ba N bj F6 hh.pers (hG.mono ((((O.t h2).trans h8).trans hb).trans h9)) G.Khz _ bk) ?_;rintro _ F7 c1 bm hm rfl;refine D1 17<|DBs 9 [sv ([81,83,79]:AcP),sv h6,sv h7,sv J,sv h0.1,sv G.Call,sv ([62]:AcP),sv h3.1,sv ([60]:AcP),sv h5.1] bm (h9.t hm) (fun ha bn bo=>?_);have hn:Aq AJ 9 F7 (sA ha) 10 [([81,83,79]:AcP),h6,h7,J,h0.1,G.Call,([62]:AcP),h3.1,([60]:AcP),h5.1] (some ha,.cells (lA [sv ([81,83,79]:AcP),sv h6,sv h7,sv J,sv h0.1,sv G.Call,sv ([62]:AcP),sv h3.1,sv ([60]:AcP),sv h5.1]) 9 (0,0)):=AcJ ⟨rfl,⟨rfl,⟨rfl,⟨rfl,⟨rfl,⟨rfl,⟨rfl,⟨rfl,⟨rfl,⟨rfl,rfl⟩⟩⟩⟩⟩⟩⟩⟩⟩⟩ (by simp);refine D1 18 ?_;have bp:=AcH hn;obtain⟨F8,ho,bq,br⟩:=bo.fr0 hn;obtain⟨c3,bs,bt⟩:=bS bl;refine DCl (cO 84) ho (D4 N bn F8 ho.pers ([([81,83,79]:AcP),h6,h7,J,h0.1,G.Call,([62]:AcP),h3.1,([60]:AcP),h5.1]) (sA ha) 10 bp br ([32]:AcP) _ bs) ?_;rintro _ F9 c4 bu bv rfl;refine Dvl [19,20] (tf 21 0) ?_;obtain rfl:=Aa bt;exact AcG (by kernel_rfl) ⟨F9,bu.dr0.dr0,((h9.t hm).trans bq).trans bv,fI⟩
  ·rintro f c5 ⟨F5,bw,c6,⟨_,rfl⟩⟩;refine Ab<|Rt ?_;obtain rfl:=Aa bd;exact Re [sv hc,vi 0] bw rfl

theorem Sg(w0:World)(F0:Mem)(hF:AcR w0 F0)(b o:Nat):Calls Tryz.prog 156 ([.pointer (some ⟨b,o,none⟩)]:List Value).toArray w0 (AD w0 F0 fun _ v=>v=.pointer (some ⟨b,o + 1,none⟩)):=by
 have G:=Acv hF;refine Go 6 Tryz.func156<|Sq<|Rg [0]<|V 2 194 (Kz (x:=.const (.pointer none)) (v:=.pointer none) rfl)<|Aco<|Ab<|Sq<|Rg [0,1,2,3]<|Vs 2 ?_;refine V 5 0 (EG (s:=27) (x:=.tmp 4) (i:=1) (b:=b) (o0:=o) (o:=1) (k:=1) rfl (by kernel_rfl) (by decide) rfl)<|Vs 1<|Aco<|Ab<|Rt ?_;exact Re [.pointer (some ⟨b,o + 1,none⟩)] G rfl
theorem Sf(w0:World)(F0:Mem)(hF:AcR w0 F0)(b o:Nat):Calls Tryz.prog 157 ([.pointer (some ⟨b,o,none⟩)]:List Value).toArray w0 (AD w0 F0 fun _ v=>v=.pointer (some ⟨b,o + 2,none⟩)):=by
 have G:=Acv hF;refine Go 6 Tryz.func157<|Sq<|Rg [0]<|V 2 194 (Kz (x:=.const (.pointer none)) (v:=.pointer none) rfl)<|Aco<|Ab<|Sq<|Rg [0,1,2,3]<|Vs 2 ?_;refine V 5 0 (EG (s:=27) (x:=.tmp 4) (i:=2) (b:=b) (o0:=o) (o:=2) (k:=1) rfl (by kernel_rfl) (by decide) rfl)<|Vs 1<|Aco<|Ab<|Rt ?_;exact Re [.pointer (some ⟨b,o + 2,none⟩)] G rfl
theorem Se(w0:World)(F0:Mem)(hF:AcR w0 F0)(b o:Nat):Calls Tryz.prog 158 ([.pointer (some ⟨b,o,none⟩)]:List Value).toArray w0 (AD w0 F0 fun _ v=>v=.pointer (some ⟨b,o + 3,none⟩)):=by
 have G:=Acv hF;refine Go 6 Tryz.func158<|Sq<|Rg [0]<|V 2 194 (Kz (x:=.const (.pointer none)) (v:=.pointer none) rfl)<|Aco<|Ab<|Sq<|Rg [0,1,2,3]<|Vs 2 ?_;refine V 5 0 (EG (s:=27) (x:=.tmp 4) (i:=3) (b:=b) (o0:=o) (o:=3) (k:=1) rfl (by kernel_rfl) (by decide) rfl)<|Vs 1<|Aco<|Ab<|Rt ?_;exact Re [.pointer (some ⟨b,o + 3,none⟩)] G rfl
def Kd(N:Nat)(G:Log)(z0:AcP):Option AcP:=
 (((A5 z0 ([32]:AcP)).bind fun I=>((strconv_Itoa N G.Category).bind fun J=>((A5 I J).bind fun O=>some O))).bind fun Y=>some Y)
theorem NF(N:Nat)(w0:World)(F0:Mem)(hF:AcR w0 F0)(hG:BH F0)(G:Log)(I:AcQ)(J:Nat)(b0:LC G.Jumps.length J)(b1:SlA AO F0 I G.Jumps)(O:AcQ)(Y:Nat)(b2:LC G.Lines.length Y)(b3:SlA AR F0 O G.Lines)(h0:Nat)(z0:AcP)(h8:F0 h0=some (oc #[sv z0] 9))(h1:Nat)(h9:F0 h1=some (oc #[fV 156 #[]] 195))(r:AcP)(h:Kd N G z0=some r):
  cA 191 [.agg (AM G I J O Y),pt h0 0,pt h1 0] w0 F0 (sv r):=by
 have ha:=Acv hF;refine Go 13 Tryz.func191<|sR [0,1]<|Bx' 27 (AM G I J O Y) ha (fun h2 b4 hb=>?_);refine Vs 1<|Nss ?_;obtain⟨h3,hc,hg⟩:=bS h;refine RD 9 9 [sb h2 (AM G I J O Y) 27] [] hb (kP w0 F0 F0 [] [] [(4,(sv h3))]) (fun hh h4=>?_) ?_
 ·refine Dl 0 (fun _ hq=>hq.1.1 _ _ h8) ?_;obtain⟨Z,hm,hn⟩:=bS hc;refine Dt 1 6 9 (sv Z) (fun _ hq=>aZ (.tmp 5) (.const (sv ([32]:AcP))) hm)<|Dl 2 (fun _ hq=>hq.1.1 _ _ h9)<|D1 3<|DCl (cO 156) h4 (Sg hh F0 h4.pers h2 0) ?_;rintro _ F2 ho h5 h6 rfl;refine Dv [4]<|Dl 5 (fun _ hq=>hq.1.2 0 _ _ rfl)<|D1 6 ?_;obtain⟨hp,hr,ht⟩:=bS hn;refine DCl (cO 85) h5 (Ba N ho F2 h5.pers (hG.mono h6) G.Category _ hr) ?_;rintro _ F3 b5 hu hw rfl;obtain⟨h7,hx,hy⟩:=bS ht;refine Dt 7 12 9 (sv h7) (fun _ hq=>aZ (.tmp 6) (.tmp 11) hx)<|Dv [8] ?_;obtain rfl:=Aa hy;exact AcG (by kernel_rfl) ⟨F3,hu.dr0,h6.t hw,fI⟩
 ·rintro f b6 ⟨F1,hz,b7,⟨_,rfl⟩⟩;refine Ab<|Rt ?_;obtain rfl:=Aa hg;exact Re [sv h3] hz rfl
def Kb(N:Nat)(G:Log)(z0:AcP):Option AcP:=
 (((A5 z0 ([32]:AcP)).bind fun I=>((strconv_Itoa N G.Power).bind fun J=>((A5 I J).bind fun O=>some O))).bind fun Y=>some Y)
theorem ND(N:Nat)(w0:World)(F0:Mem)(hF:AcR w0 F0)(hG:BH F0)(G:Log)(I:AcQ)(J:Nat)(b0:LC G.Jumps.length J)(b1:SlA AO F0 I G.Jumps)(O:AcQ)(Y:Nat)(b2:LC G.Lines.length Y)(b3:SlA AR F0 O G.Lines)(h0:Nat)(z0:AcP)(h8:F0 h0=some (oc #[sv z0] 9))(h1:Nat)(h9:F0 h1=some (oc #[fV 157 #[]] 195))(r:AcP)(h:Kb N G z0=some r):
  cA 191 [.agg (AM G I J O Y),pt h0 0,pt h1 0] w0 F0 (sv r):=by
 have ha:=Acv hF;refine Go 13 Tryz.func191<|sR [0,1]<|Bx' 27 (AM G I J O Y) ha (fun h2 b4 hb=>?_);refine Vs 1<|Nss ?_;obtain⟨h3,hc,hg⟩:=bS h;refine RD 9 9 [sb h2 (AM G I J O Y) 27] [] hb (kP w0 F0 F0 [] [] [(4,(sv h3))]) (fun hh h4=>?_) ?_
 ·refine Dl 0 (fun _ hq=>hq.1.1 _ _ h8) ?_;obtain⟨Z,hm,hn⟩:=bS hc;refine Dt 1 6 9 (sv Z) (fun _ hq=>aZ (.tmp 5) (.const (sv ([32]:AcP))) hm)<|Dl 2 (fun _ hq=>hq.1.1 _ _ h9)<|D1 3<|DCl (cO 157) h4 (Sf hh F0 h4.pers h2 0) ?_;rintro _ F2 ho h5 h6 rfl;refine Dv [4]<|Dl 5 (fun _ hq=>hq.1.2 0 _ _ rfl)<|D1 6 ?_;obtain⟨hp,hr,ht⟩:=bS hn;refine DCl (cO 85) h5 (Ba N ho F2 h5.pers (hG.mono h6) G.Power _ hr) ?_;rintro _ F3 b5 hu hw rfl;obtain⟨h7,hx,hy⟩:=bS ht;refine Dt 7 12 9 (sv h7) (fun _ hq=>aZ (.tmp 6) (.tmp 11) hx)<|Dv [8] ?_;obtain rfl:=Aa hy;exact AcG (by kernel_rfl) ⟨F3,hu.dr0,h6.t hw,fI⟩
 ·rintro f b6 ⟨F1,hz,b7,⟨_,rfl⟩⟩;refine Ab<|Rt ?_;obtain rfl:=Aa hg;exact Re [sv h3] hz rfl
def Kc(N:Nat)(G:Log)(z0:AcP):Option AcP:=
 (((A5 z0 ([32]:AcP)).bind fun I=>((strconv_Itoa N G.Claimed).bind fun J=>((A5 I J).bind fun O=>some O))).bind fun Y=>some Y)
theorem NE(N:Nat)(w0:World)(F0:Mem)(hF:AcR w0 F0)(hG:BH F0)(G:Log)(I:AcQ)(J:Nat)(b0:LC G.Jumps.length J)(b1:SlA AO F0 I G.Jumps)(O:AcQ)(Y:Nat)(b2:LC G.Lines.length Y)(b3:SlA AR F0 O G.Lines)(h0:Nat)(z0:AcP)(h8:F0 h0=some (oc #[sv z0] 9))(h1:Nat)(h9:F0 h1=some (oc #[fV 158 #[]] 195))(r:AcP)(h:Kc N G z0=some r):
  cA 191 [.agg (AM G I J O Y),pt h0 0,pt h1 0] w0 F0 (sv r):=by
 have ha:=Acv hF;refine Go 13 Tryz.func191<|sR [0,1]<|Bx' 27 (AM G I J O Y) ha (fun h2 b4 hb=>?_);refine Vs 1<|Nss ?_;obtain⟨h3,hc,hg⟩:=bS h;refine RD 9 9 [sb h2 (AM G I J O Y) 27] [] hb (kP w0 F0 F0 [] [] [(4,(sv h3))]) (fun hh h4=>?_) ?_
 ·refine Dl 0 (fun _ hq=>hq.1.1 _ _ h8) ?_;obtain⟨Z,hm,hn⟩:=bS hc;refine Dt 1 6 9 (sv Z) (fun _ hq=>aZ (.tmp 5) (.const (sv ([32]:AcP))) hm)<|Dl 2 (fun _ hq=>hq.1.1 _ _ h9)<|D1 3<|DCl (cO 158) h4 (Se hh F0 h4.pers h2 0) ?_;rintro _ F2 ho h5 h6 rfl;refine Dv [4]<|Dl 5 (fun _ hq=>hq.1.2 0 _ _ rfl)<|D1 6 ?_;obtain⟨hp,hr,ht⟩:=bS hn;refine DCl (cO 85) h5 (Ba N ho F2 h5.pers (hG.mono h6) G.Claimed _ hr) ?_;rintro _ F3 b5 hu hw rfl;obtain⟨h7,hx,hy⟩:=bS ht;refine Dt 7 12 9 (sv h7) (fun _ hq=>aZ (.tmp 6) (.tmp 11) hx)<|Dv [8] ?_;obtain rfl:=Aa hy;exact AcG (by kernel_rfl) ⟨F3,hu.dr0,h6.t hw,fI⟩
 ·rintro f b6 ⟨F1,hz,b7,⟨_,rfl⟩⟩;refine Ab<|Rt ?_;obtain rfl:=Aa hg;exact Re [sv h3] hz rfl
section
open Go.Proofs Go.Lib
def ZB(a:AcQ)(cap:Nat)(t:AcP)(e:oO):Prop:=
 (a=none/\cap=0/\t=[]/\e.1=none)\/ ∃ g cur,a=some ⟨g,0,none⟩/\e=(some g,.cells cur 5 (0,0))/\t≠[]/\t.length<=cap/\cap<=maxLen/\cur.size=cap/\cur.toList.take t.length=byteCells t
def K0(t s:AcP):Option AcP:=if t.length + s.length<=140737488355328 then some (t++s)else none
theorem XT{t s r:AcP}(h:K0 t s=some r):t.length + s.length<=140737488355328/\r=t++s:=by
 unfold K0 at h;split at h
 ·rename_i G;exact⟨G,by cases h;rfl⟩
 ·cases h
section
variable {w w0:World} {F0 F:Mem} {L:Own}
theorem G9(l:AcP):(byteCells l).length=l.length:=by simp[byteCells]
theorem Zn(l m:AcP):byteCells (l++m)=byteCells l++byteCells m:=by simp[byteCells]
theorem Vv{g:Nat}{cur cs:Array Value}{e:TypeId}{fz:Nat×Nat}(hg:w.heap[g]? =some (.cells cur e fz)):w.setRow g cs=Dd w g (.cells cs e fz):=by
 have hlt:g < w.heap.size:=(yW.1 hg).1;have hv:w.heap[g]=.cells cur e fz:=(yW.1 hg).2;unfold World.setRow Dd;congr 1;apply Array.ext_getElem?;intro i;rw[Array.getElem?_modify,wR];by_cases hi:g=i
 ·subst hi;simp[hlt,hv]
 ·simp[hi]
theorem QX{ty:TypeId}(hs:HS w0 F0 w F L){k:Nat}{e:oO}(hk:L[k]? =some e){a:AcQ}{cap:Nat}{t s r:AcP}(hr:ZB a cap t e)(hap:K0 t s=some r):
  ∃ a' cap' e' w',(Builtin.append_ #[103,9] ty #[.slice a t.length cap,.string ⟨s.toArray⟩]).run Tryz.prog w=.ok (.slice a' r.length cap') w'/\HS w0 F0 w' F (L.set k e')/\ZB a' cap' r e':=by
 obtain⟨hlen,rfl⟩:=XT hap;have G:Tryz.prog.underlying 9=some .string:=Tryz.underlying9;have I:Tryz.prog.underlying 103=some (.slice 5):=Tryz.underlying103;obtain⟨J,hi,Z,O,h1⟩:=info_parts (show(Tryz.prog.info? 5).map (fun i=>(i.zero,i.size,i.bytes))=some (some (.int .u8 0),1,1)by kernel_rfl);have hss:(⟨s.toArray⟩:ByteArray).size=s.length:=by simp[ByteArray.size]
 have hsc:strCells ⟨s.toArray⟩=byteCells s:=by simp[strCells,byteCells]
 have hm:maxLen=9223372036854775807:=rfl;rcases hr with⟨rfl,rfl,rfl,he⟩ | ⟨g,cur,rfl,rfl,hne,hlc,hcm,hcs,htk⟩
 ·by_cases Y:s=[]
  ·subst Y;refine⟨none,0,e,w,?_,by rw[QQ hk];exact hs,.inl ⟨rfl,rfl,rfl,he⟩⟩;simp[Builtin.append_,run_underlying I,run_underlying G,sizeOf,typeInfo,hi,O,Builtin.lenOf,Builtin.firstCells,ByteArray.size]
  ·have hpos:0 < s.length:=zJ.2 Y;have hrun:=run_append_nil_string (P:=Tryz.prog) w 103 9 ty 5 J (.int .u8 0) I G hi Z ⟨s.toArray⟩ (by rw[hss];exact hpos) (by rw[hss];simp at hlen;omega) (by rw[hss,h1];simp at hlen;omega);rw[hss]at hrun;refine⟨_,_,_,_,hrun,(hs.heap (w':=w.drew) rfl).renew k _,.inr ⟨_,_,rfl,rfl,by simpa using Y,by simpa using grownCap_ge w s.length 0 5,grownCap_le_maxLen w s.length 0 5 (by rw[hm];simp at hlen;omega),?_,?_⟩⟩
   ·have:=grownCap_ge w s.length 0 5;simp[Builtin.zeroCells,Value.cells];omega
   ·rw[zQ];have e1:(s.toArray.map fun b=>Value.int .u8 (b.toNat:Int)).toList=byteCells s:=by simp[byteCells]
    rw[vP,e1,yK (by rw[G9];exact xM _),<-G9 s,xS]
 ·have hg:w.heap[g]? =some (.cells cur 5 (0,0)):=hs.ownAt hk;by_cases hfit:t.length + s.length<=cap
  ·have hrun:=run_append_room_string (P:=Tryz.prog) w 103 9 ty 5 J I G hi O g t.length cap cur hg ⟨s.toArray⟩ (by rw[hss];exact hfit) (by rw[hss,hcs];exact hfit);rw[hss,hsc,Vv hg]at hrun;refine⟨some ⟨g,0,none⟩,cap,_,_,by rw[xD];exact hrun,hs.put hk _,.inr ⟨g,_,rfl,rfl,by simp[hne],by simpa using hfit,hcm,?_,?_⟩⟩
   ·simp[G9,hcs];omega
   ·rw[htk,xD,Zn];rw[yK (by simp[G9])];have:t.length + s.length=(byteCells t++byteCells s).length:=by simp[G9]
    rw[this,xS]
  ·have hholds:∀ j v,(byteCells t)[j]? =some v->w.cell? ((⟨g,0,none⟩:Addr).add j)=some v:=fun j v hj=>by
    have hjl:j < t.length:=by
     rcases xR j t.length with h' | h'
     ·exact h'
     ·rw[xI (by rw[G9];exact h')]at hj;cases hj
    have:cur[j]? =some v:=by
     rw[<-htk,zV hjl,zF]at hj;exact hj
    rw[Addr.add_lit];simp[World.cell?,hg,this]
   have hrun:=run_append_grow_string (P:=Tryz.prog) w 103 9 ty 5 J (.int .u8 0) I G hi Z ⟨g,0,none⟩ t.length cap (byteCells t) (by rw[G9,O,Nat.mul_one]) hholds ⟨s.toArray⟩ (by rw[hss];omega) (by rw[hss];omega) (by rw[hss,h1];exact growslice_fits (by omega) (by omega));rw[hss,hsc]at hrun;refine⟨_,_,_,_,by rw[xD];exact hrun,(hs.heap (w':=w.drew) rfl).renew k _,.inr ⟨_,_,rfl,rfl,by simp[hne],by simpa using grownCap_ge w (t.length + s.length) cap 5,grownCap_le_maxLen w (t.length + s.length) cap 5 (by rw[hm];omega),?_,?_⟩⟩
   ·have:=grownCap_ge w (t.length + s.length) cap 5;simp[Builtin.zeroCells,Value.cells,G9];omega
   ·rw[vP,vP,Zn,xD];have:t.length + s.length=(byteCells t++byteCells s).length:=by simp[G9]
    rw[yK (by simp[G9]),this];simp only[xS]
end
section
variable {ρ:Operand -> Value} {w:World}
theorem LQ(op:BinOp)(t:TypeId)(x y:Operand)(p q:AcQ):(eqGuard op t x y (.pointer p) (.pointer q)).run Tryz.prog w=.ok () w:=by
 unfold eqGuard;cases op <;> simp
theorem TC(p:AcQ)(d:Nat):(Op.equalIn (d + 1) 102 (.pointer p) (.pointer none)).run Tryz.prog w=.ok p.isNone w:=by
 unfold Op.equalIn;simp only[xG,run_underlying Tryz.underlying102,xC];cases p <;> rfl
theorem Ux{x y:Operand}{p:AcQ}{ty:TypeId}(hx:ρ x=.pointer p)(hy:ρ y=.pointer none):(As ρ (.binOp .eql 102 x y 102) ty).run Tryz.prog w=.ok (.value (.bool p.isNone)) w:=by
 have e:As ρ (.binOp .eql 102 x y 102) ty=(do pure (Next.value (<-(do eqGuard .eql 102 x y (ρ x) (ρ y);binOp .eql 102 (ρ x) (ρ y))))):=rfl;have G:binOp .eql 102 (.pointer p) (.pointer none)=(do pure (Value.bool (<-Op.equalIn (9999 + 1) 102 (.pointer p) (.pointer none)))):=rfl;rw[e,hx,hy,G];simp only[xG,LQ,xC,TC,xK]
theorem Tz{x y:Operand}{a:Addr}{ty:TypeId}(hx:ρ x=.pointer (some a))(hy:ρ y=.pointer (some a)):(As ρ (.binOp .neq 102 x y 102) ty).run Tryz.prog w=.ok (.value (.bool false)) w:=by
 have e:As ρ (.binOp .neq 102 x y 102) ty=(do pure (Next.value (<-(do eqGuard .neq 102 x y (ρ x) (ρ y);binOp .neq 102 (ρ x) (ρ y))))):=rfl;obtain⟨j,hj,_⟩:=yO.1 (show(Tryz.prog.info? 105).map (·.size)=some 2 by kernel_rfl);rw[e,hx,hy];simp only[xG,LQ,xC,run_neq_ptr_same w a Tryz.underlying102 hj,xK]
theorem Uz{x:Operand}{v u:Value}{s d ty:TypeId}(hx:ρ x=v)(h:(convert s d v).run Tryz.prog w=.ok u w):(As ρ (.convert s d x) ty).run Tryz.prog w=.ok (.value u) w:=by
 have e:As ρ (.convert s d x) ty=(do pure (Next.value (<-convert s d (ρ x)))):=rfl;rw[e,hx,xG,h];rfl
theorem Xh{x:Operand}{v:Value}{ty:TypeId}(hx:ρ x=v)(hf:ρ (.func 192)=.func (.func 192) #[] #[]):(As ρ (.call {callee:=.value (.func 192),args:=#[x],argTypes:=#[235]}) ty).run Tryz.prog w=.ok (.value v) w:=by
 have e:As ρ (.call {callee:=.value (.func 192),args:=#[x],argTypes:=#[235]}) ty=(do let d<-Deferred.ofValue (ρ (.func 192)) (#[x].map ρ);invoke d.target d.args):=rfl;rw[e,hf];simp only[Deferred.ofValue,xG,xK,xC,invoke];rw[run_callFunc_extern Tryz.func192 (by kernel_rfl) (by kernel_rfl) (by kernel_rfl) (e:=Extern.AbiNoEscape.same) (by kernel_rfl)];have:(#[]++Array.map ρ #[x]++#[]:Array Value)=#[v]:=by simp[hx]
 rw[this,run_noEscape];rfl
end
theorem Vf{wb w0:World}{Fb F0:Mem}{Lf:Own}(b:Nat)(p:AcQ)(hp:p=none\/p=some ⟨b,0,none⟩)(v:Value)(hv:v.oneCell'=true)(G:HS wb Fb w0 F0 ((some b,.cells #[.pointer p,v] 105 (0,0))::Lf)):
  Calls Tryz.prog 161 ([.pointer (some ⟨b,0,none⟩)]:List Value).toArray w0 (Hm wb Fb F0 fun _ r L'=>r=.tuple #[]/\L'=(some b,.cells #[.pointer (some ⟨b,0,none⟩),v] 105 (0,0))::Lf):=by
 have hsh:w0.shape? b=some (105,2):=by simp[World.shape?,G.at0]
 refine Go 20 Tryz.func161<|Sq<|Rg [0,1,2,3,4]<|Vs 3<|Ld G.at0<|V 6 4 (Ux (x:=.tmp 5) (y:=.const (.pointer none)) (p:=p) rfl rfl)<|Aco<|Ab ?_;rcases hp with rfl | rfl
 ·refine C1 (t:=true) rfl ?_;refine Rg [0,1,2,3,4,5,6,7] ?_;obtain⟨j,hj,hjs⟩:=yO.1 (show(Tryz.prog.info? 105).map (·.size)=some 2 by kernel_rfl);refine Vs 2<|V 9 235 (Uz (s:=102) (d:=235) (x:=.tmp 8) rfl (run_to_unsafe w0 ⟨b,0,none⟩ Tryz.underlying102 Tryz.underlying235 hj (by rw[hjs];decide) hsh (Nat.zero_lt_succ 1)))<|V 10 235 (Xh (x:=.tmp 9) rfl rfl)<|V 11 102 (Uz (s:=235) (d:=102) (x:=.tmp 10) rfl (run_from_unsafe w0 ⟨b,0,none⟩ Tryz.underlying235 Tryz.underlying102 hj hsh (by kernel_rfl)))<|Vs 2<|St0 #[.pointer (some ⟨b,0,none⟩),v] G (fun w1 I=>?_);refine Aco ?_;exact ReB [] I (Acu _) ⟨rfl,rfl⟩
 ·refine C0 (t:=false) rfl ?_;refine Sq<|Rg [0,1,2,3,4,5]<|Vs 3<|Ld G.at0<|Vs 1<|V 19 4 (Tz (x:=.tmp 17) (y:=.tmp 18) rfl rfl)<|Aco<|Ab<|C0 (t:=false) rfl ?_;refine CWP.skip (by kernel_rfl) ?_;exact ReB [] G (Acu _) ⟨rfl,rfl⟩
theorem SX{wb w0:World}{Fb F0:Mem}{Lf:Own}(b:Nat)(p:AcQ)(hp:p=none\/p=some ⟨b,0,none⟩)(a:AcQ)(cap:Nat)(e:oO)(t s r:AcP)(hb:ZB a cap t e)(hap:K0 t s=some r)
  (J:HS wb Fb w0 F0 ((some b,.cells #[.pointer p,.slice a t.length cap] 105 (0,0))::e::Lf)):
  Calls Tryz.prog 90 ([.pointer (some ⟨b,0,none⟩),.string ⟨s.toArray⟩]:List Value).toArray w0 (Hm wb Fb F0 fun _ v L'=>v=.tuple #[.int .i64 (s.length:Int),.nilIface]/\ ∃ a' cap' e',L'=(some b,.cells #[.pointer (some ⟨b,0,none⟩),.slice a' r.length cap'] 105 (0,0))::e'::Lf/\ZB a' cap' r e'):=by
 refine Go 19 Tryz.func90<|Sq<|Rg [0,1]<|Vs 2<|Aco<|Ab<|Sq<|Rg [0,1]<|Vs 1 ?_;refine CB (cO 161) (Vf b p hp (.slice a t.length cap) rfl J) ?_;rintro _ F1 w1 _ I O ⟨rfl,rfl⟩;refine Aco<|Ab<|Sq<|Rg [0,1,2,3,4,5,6,7,8,9]<|Vs 4<|Ld I.at0<|Vs 1 ?_;obtain⟨a',cap',e',Y,hrun,G,Z⟩:=QX (ty:=103) I (k:=1) rfl hb hap;refine Acp (dst:=some 14) (ty:=103) (g:=none) (v:=.slice a' r.length cap') (by kernel_rfl) rfl (by
  have e:∀ ρ:Operand->Value,As ρ (.call {callee:=.builtin .append,args:=#[.tmp 12,.tmp 13],argTypes:=#[103,9]}) 103=(do pure (Next.value (<-Builtin.append_ #[103,9] 103 (#[.tmp 12,.tmp 13].map ρ)))):=fun _=>rfl;rw[e];simp only[List.map_toArray,yH,zW];rw[xG];refine Eq.trans (congrArg (fun x=>Result.andThen x _) (show _=_ from hrun)) rfl) ?_
 have G:HS wb Fb Y F1 ((some b,.cells #[.pointer (some ⟨b,0,none⟩),.slice a t.length cap] 105 (0,0))::e'::Lf):=G;refine Vs 2<|St0 #[.pointer (some ⟨b,0,none⟩),.slice a' r.length cap'] G (fun w3 h0=>?_);refine Aco<|Ab<|Sq<|Rg [0,1,2,3]<|Vs 4<|Aco<|Ab<|Rt ?_;exact ReB [.int .i64 (s.length:Int),.nilIface] h0 O ⟨rfl,a',cap',e',rfl,Z⟩
def HY(b:Nat)(t:AcP)(_:Mem)(Lf:Own):Prop:=∃ p a n e,(p=none\/p=some ⟨b,0,none⟩)/\Lf=[e,(some b,.cells #[.pointer p,.slice a t.length n] 105 (0,0))]/\ZB a n t e
theorem HY.mono{b:Nat}:Tq (HY b):=fun _ _ _ _ h _=>h
section
variable {w w0:World} {F0 F:Mem} {L:Own} {b:Nat}
theorem HY.new(hs:HS w0 F0 w F ((some b,.cells #[.pointer none,.slice none 0 0] 105 (0,0))::L)):∃ Lf,HS w0 F0 w F (L++Lf)/\HY b [] F Lf:=
 ⟨_,HS.swap (A:=[(none,.cells #[] 0 (0,0)),_]) (hs.dummy (.cells #[] 0 (0,0))),none,none,0,_,.inl rfl,rfl,.inl ⟨rfl,rfl,rfl,rfl⟩⟩
theorem FV{Lf:Own}{t s r:AcP}(hap:K0 t s=some r)(hJ:HY b t F Lf)(hs:HS w0 F0 w F (L++Lf)):
  Calls Tryz.prog 90 ([.pointer (some ⟨b,0,none⟩),.string ⟨s.toArray⟩]:List Value).toArray w (Hm w0 F0 F fun F' v L'=>v=.tuple #[.int .i64 (s.length:Int),.nilIface]/\ ∃ Lf',L'=L++Lf'/\HY b r F' Lf'):=by
 obtain⟨p,a,n,e,hp,rfl,hb⟩:=hJ;have G:HS w0 F0 w F (e::(some b,.cells #[.pointer p,.slice a t.length n] 105 (0,0))::L):=HS.swap hs;refine(SX b p hp a n e t s r hb hap G.pk1).mono ?_;rintro _ w' ⟨F',v,_,rfl,I,J,rfl,a',n',e',rfl,hb'⟩;exact⟨F',_,L++[e',_],rfl,HS.swap (A:=[e',_]) I.pk1,J,rfl,_,rfl,_,a',n',e',.inr rfl,rfl,hb'⟩
theorem Tp{Lf:Own}{t:AcP}(hJ:HY b t F Lf)(hs:HS w0 F0 w F (L++Lf)):Calls Tryz.prog 91 ([.pointer (some ⟨b,0,none⟩)]:List Value).toArray w (Hm w0 F0 F0 fun F' v L'=>v=.string ⟨t.toArray⟩/\L'=[]/\F'=F0):=by
 obtain⟨p,a,n,e,hp,rfl,hb⟩:=hJ;have G:HS w0 F0 w F (e::(some b,.cells #[.pointer p,.slice a t.length n] 105 (0,0))::L):=HS.swap hs;have hB:w0.heap.size<=b:=(G.own b _ (.tail _ (.head _))).2.2;have hbk:=G.at1;have hbuf:IsBuilder 105 5 w0.heap.size b (byteCells t) w:=by
  have:BuilderAt 105 5 w0.heap.size b (.pointer p) (byteCells t) w:=by
   refine⟨hB,.slice a t.length n,hbk,?_,?_⟩
   ·rcases hb with⟨rfl,rfl,rfl,_⟩ | ⟨g,cur,rfl,rfl,hne,hlc,hcm,hcs,htk⟩
    ·exact⟨rfl,.inl ⟨rfl,rfl⟩⟩
    ·exact⟨by simp[G9],.inr ⟨g,n,cur,by rw[G9],(G.own g _ (.head _)).2.2,G.at0,by rw[G9];exact hlc,hcm,by simpa using hcs,by rw[G9,Nat.mul_one];exact htk⟩⟩
   ·rcases hb with⟨rfl,rfl,rfl,_⟩ | ⟨g,cur,rfl,rfl,hne,hlc,hcm,hcs,htk⟩
    ·simp[Value.ownBlock]
    ·have:=G.nd;simp only[Value.ownBlock];intro e;simp at e;subst e;simp at this
  rcases hp with rfl | rfl
  ·exact .inl this
  ·exact .inr this
 refine(Tryz.Builder_String_any w0.heap.size b t w hbuf G.size).mono ?_;rintro _ w' ⟨rfl,hbel⟩;refine⟨F0,_,[],rfl,?_,Acu _,rfl,rfl,rfl⟩;exact⟨G.base,G.fix.trans ⟨hbel.os,hbel.output,hbel.tape⟩,wH G.size hbel.size,fun c hc=>(hbel.block c hc).trans (G.keep c hc),fun _ _=>rfl,fun c o hc=>(hbel.block c (BA (G.base c o hc))).trans ((G.keep c (BA (G.base c o hc))).trans (G.base c o hc)),fun _ _ h=>(by cases h),vL⟩
end
end
theorem J6{P:Program}{w:World}{ρ:Operand->Value}{ty t E:TypeId}{len s:Nat}{x y:Operand}{k:IntKind}{i:Int}{cs C:List Value}(hx:ρ x=.agg cs.toArray)(hy:ρ y=.int k i)(hu:P.underlying t=some (.array len E))(ht:Gh P E=some (true,s))(hi:0<=i/\i < (len:Int))(hc:Aw cs.toArray (i.toNat * s) s=C)(hl:C.length=s):
  (As ρ (.index t x y) ty).run P w=.ok (.value (.agg C.toArray)) w:=by
 have hp:=J4 (P:=P) (t:=E) (C:=cs.toArray) (o:=i.toNat * s) ht (by rw[hc];exact hl) (.inl rfl) w;rw[hc]at hp;simp only[As,execOp,hx,hy,Instr.index,asIntOf,xG,xK,xC,run_underlying hu,Ec ht];rw[if_pos hi];simp only[xG,Ec ht,xC];rw[hp];rfl
theorem J5{P:Program}{w:World}{ρ:Operand->Value}{ty t E:TypeId}{len s:Nat}{x y:Operand}{k:IntKind}{i n:Int}{cs C:List Value}(hx:ρ x=.agg cs.toArray)(hy:ρ y=.int k i)(hu:P.underlying t=some (.array len E))(ht:Gh P E=some (true,s))(hd:decide (i=n)=true)(hi:0<=n/\n < (len:Int))(hc:Aw cs.toArray (n.toNat * s) s=C)(hl:C.length=s):
  (As ρ (.index t x y) ty).run P w=.ok (.value (.agg C.toArray)) w:=by
 have e:=of_decide_eq_true hd;subst e;exact J6 hx hy hu ht hi hc hl
theorem NU{P:Program}{w:World}{ρ:Operand->Value}{ty t E:TypeId}{len s b o0 o1:Nat}{g:Bool}{x y:Operand}{k:IntKind}{i n:Int}(hx:ρ x=.pointer (some ⟨b,o0,none⟩))(hy:ρ y=.int k i)(hu:P.underlying t=some (.array len E))(ht:Gh P E=some (g,s))(hd:decide (i=n)=true)(hi:0<=n/\n < (len:Int))(ho:o0 + n.toNat * s=o1):
  (As ρ (.indexAddr t x y) ty).run P w=.ok (.value (.pointer (some ⟨b,o1,none⟩))) w:=by
 have e:=of_decide_eq_true hd;subst e;subst ho;have hdo:As ρ (.indexAddr t x y) ty=(do pure (Next.value (<-Instr.indexAt t (ρ x) (ρ y)))):=rfl;rw[hdo,hx,hy];have G:(Instr.sureAddr (.pointer (some ⟨b,o0,none⟩))).run P w=.ok ⟨b,o0,none⟩ w:=rfl;simp only[Instr.indexAt,asIntOf,xG,xK,xC,run_underlying hu,G,hi,and_self,if_true,Ec ht,Addr.add]
 first | rfl | (split <;> simp_all)
section
variable {P:Program} {n:Nat} {Q:Exit -> Fr -> World -> Prop} {f:Fr} {w w0:World} {F0 F:Mem} {L:Own}
theorem CWP.rangeRet{X α σ:Type}{enc:X->List Value}{ok:Mem->X->Prop}{px:X->α}{m:∀{σ:Type},(σ->α->Option (Bool×σ))->σ->Option σ}{c:Code}(hk:Aav c=1){gf:FuncId}{cap:List Value}{B:Own}
  (hg:fev f (ZT c)=.func (.func gf) #[] cap.toArray) (hgf:Ai P gf) (hd:f.d=[]) {ps:List Nat} (h5:rps c=ps) (hps:ps.all (· < n)=true) (hlen:∀ x,(enc x).length=ps.length) (hs:HS w0 F0 w F (B++L)) (hseq:W8 P gf cap F B enc ok px m)
  (lp:σ->α->Option (σ×Bool)) (J:σ->Mem->Own->Prop) (hJm:Tq J) {s:σ} {r:σ×Bool} (hJ:J s F L) (hm:m (Uc lp) (s,true)=some r)
  (hround:∀(l:Nat)(s:σ)(x:X)(w':World)(F':Mem)(Lf Rf:Own)(t:σ×Bool),Acs F F'->ok F' x->J s F' Lf->HS w0 F0 w' F' (Lf++Rf)->lp s (px x)=some t->
   CWP P (some l) n (ZW c) (fun e f1 w1=>e=.normal/\ ∃ F1 Lu,HS w0 F0 w1 F1 (Lu++Rf)/\ ∀ O Rg,HS w0 F0 O F1 (Lu++Rg)->CWP P (some l) n (Wu c) (fun e f2 w3=>((e=.normal/\t.2=true)\/(e=.ret/\t.2=false))/\ ∃ Z h4,HS w0 F0 w3 Z (h4++Rg)/\Acs F' Z/\J t.1 Z h4) f1 O) (setps f ps (enc x)) w')
  (hdone:r.2=true->∀(D:Nat)(w':World)(F':Mem)(Lf:Own),HS w0 F0 w' F' ((some D,.deferred (some []))::Lf)->Acs F F'->J r.1 F' Lf->Q .normal ⟨f.v,[{target:=.collected D,args:=#[]}]⟩ w')
  (hstop:r.2=false->∀(D:Nat)(w':World)(F':Mem)(Lf:Own),HS w0 F0 w' F' ((some D,.deferred (some []))::Lf)->Acs F F'->J r.1 F' Lf->Q .ret ⟨f.v,[{target:=.collected D,args:=#[]}]⟩ w'):CWP P none n c Q f w:=by
 refine CWP.rangeFunc2 hk hg hgf hd h5 hps hlen hs hseq (Uc lp) (fun s=>s.2) (fun s F L=>J s.1 F L) (fun s F F' L h hl=>hJm s.1 F F' L h hl) (s:=(s,true)) (r:=r) hJ rfl hm (fun s x q h=>⟨(Po h).1,(Po h).2.1⟩) ?_ (fun D w' F' Lf h0 Y G I=>hdone h0 D w' F' Lf Y G I) (fun D w' F' Lf h0 Y G I=>hstop h0 D w' F' Lf Y G I);intro l s x w' F' Lf Rf q hle hok hJ hs hyq;obtain⟨Y,G,I⟩:=Po hyq;refine(hround l s.1 x w' F' Lf Rf q.2 hle hok hJ hs I).mono ?_;rintro e f1 w1 ⟨rfl,F1,Lu,h6,h⟩;refine⟨rfl,F1,Lu,h6,fun O Rg h7=>(h O Rg h7).mono ?_⟩;rintro e f2 w3 ⟨he,h⟩;rw[G];exact⟨he,h⟩
end
def osk{α τ:Type}(q:Option α)(f:τ)(g:α->τ):τ:=match q with
 | none=>f
 | some a=>g a
theorem Yr{α τ:Type}{f:τ}{g:α->τ}{r:τ}(h:osk none f g=r):f=r:=h
theorem Yq{α τ:Type}{x:α}{f:τ}{g:α->τ}{r:τ}(h:osk (some x) f g=r):g x=r:=h
structure Au where
 o_:Ac
 l_:Log
 done_:Int
 ended_:Bool
abbrev rdv(G I J O:Nat):Value:=.func (.func 190) #[] #[.pointer (some ⟨G,0,none⟩),.pointer (some ⟨I,0,none⟩),.pointer (some ⟨J,0,none⟩),.pointer (some ⟨O,0,none⟩)]
abbrev wrv(G I:Nat):Value:=.func (.func 191) #[] #[.pointer (some ⟨G,0,none⟩),.pointer (some ⟨I,0,none⟩)]
abbrev fcv(k:FuncId):Value:=.func (.func k) #[] #[]
theorem I8(w0:World)(F0:Mem)(hF:AcR w0 F0)(s:AcP)(lo hi:Int)(k:FuncId):Calls Tryz.prog 155 ([.string ⟨s.toArray⟩,.int .i64 lo,.int .i64 hi,fcv k]:List Value).toArray w0 (AD w0 F0 fun F' v=>∃ G J O I,v=.agg #[rdv G J O I,wrv G I]/\
  F' G=some (.cells #[.string ⟨s.toArray⟩] 9 (0,0))/\F' J=some (.cells #[.int .i64 lo] 3 (0,0))/\F' O=some (.cells #[.int .i64 hi] 3 (0,0))/\F' I=some (.cells #[fcv k] 195 (0,0))):=by
 have h1:=Acv hF;refine Go 12 Tryz.func155<|Sq<|Rg [0,1,2,3,4]<|Bx' 9 #[.string ⟨s.toArray⟩] h1 (fun G w1 h2=>?_);refine Bx' 3 #[.int .i64 lo] h2 (fun J w2 h3=>?_);refine Bx' 3 #[.int .i64 hi] h3 (fun O w3 h4=>?_);refine Bx' 195 #[fcv k] h4 (fun I w4 h5=>?_);refine Al' 109 #[.nilFunc,.nilFunc] h5 (fun b5 w5 h6=>?_);refine Aco<|Ab<|Sq<|Rg [0,1,2,3]<|Vs 3<|St0 #[rdv G J O I,wrv G I] h6 (fun w6 h7=>?_);refine Aco<|Ab<|Rt ?_;obtain⟨F1,h8,hc,f4⟩:=h7.fc1;obtain⟨F2,h9,ha,f3⟩:=h8.fc1;obtain⟨F3,hb,Z,f2⟩:=h9.fc1;obtain⟨F4,h0,Y,f1⟩:=hb.fc1;exact⟨rfl,.agg #[rdv G J O I,wrv G I],AK (l:=[.cell 8 109]) (by kernel_rfl) (vs:=[.agg #[rdv G J O I,wrv G I]]) ⟨b5,0,rfl,Al (t:=109) (g:=true) (s:=2) (by kernel_rfl) h0.at0 rfl (by decide),trivial⟩,.agg #[rdv G J O I,wrv G I],F4,rfl,h0.clear,G,J,O,I,rfl,f1,Y _ _ f2,Y _ _ (Z _ _ f3),Y _ _ (Z _ _ (ha _ _ f4))⟩
theorem Iq(w0:World)(F0:Mem)(hF:AcR w0 F0):Calls Tryz.prog 89 ([]:List Value).toArray w0 (AD w0 F0 fun F' v=>∃(G b2 b3 I J b6 b7 O Y h0 h1 Z:Nat),v=.agg #[fcv 153,fcv 154,rdv G b2 b3 I,wrv G I,rdv J b6 b7 O,wrv J O,rdv Y h0 h1 Z,wrv Y Z,fcv 159,fcv 160]/\F' G=some (.cells #[.string ⟨([67,65,84,69,71,79,82,89]:AcP).toArray⟩] 9 (0,0))/\F' b2=some (.cells #[.int .i64 1] 3 (0,0))/\F' b3=some (.cells #[.int .i64 9] 3 (0,0))/\F' I=some (.cells #[fcv 156] 195 (0,0))/\F' J=some (.cells #[.string ⟨([80,79,87,69,82]:AcP).toArray⟩] 9 (0,0))/\F' b6=some (.cells #[.int .i64 1] 3 (0,0))/\F' b7=some (.cells #[.int .i64 9999] 3 (0,0))/\F' O=some (.cells #[fcv 157] 195 (0,0))/\F' Y=some (.cells #[.string ⟨([67,76,65,73,77,69,68]:AcP).toArray⟩] 9 (0,0))/\F' h0=some (.cells #[.int .i64 0] 3 (0,0))/\F' h1=some (.cells #[.int .i64 1000000] 3 (0,0))/\F' Z=some (.cells #[fcv 158] 195 (0,0))):=by
 have h8:=Acv hF;refine Go 7 Tryz.func89<|Sq<|Rg [0]<|Al' 110 #[.nilFunc,.nilFunc,.nilFunc,.nilFunc,.nilFunc,.nilFunc,.nilFunc,.nilFunc,.nilFunc,.nilFunc] h8 (fun b0 w1 h4=>?_);refine Aco<|Ab<|Sq<|Rg [0,1,2,3,4,5,6]<|Vs 1<|Cl' (cO 155) h4 (I8 w1 F0 h4.pers [67,65,84,69,71,79,82,89] 1 9 156) ?_;rintro _ F1 w2 h5 hg ⟨G,b2,b3,I,rfl,f1,f2,f3,f4⟩;refine Cl' (cO 155) h5 (I8 w2 F1 h5.pers [80,79,87,69,82] 1 9999 157) ?_;rintro _ F2 w3 h6 h3 ⟨J,b6,b7,O,rfl,f5,f6,f7,f8⟩;refine Cl' (cO 155) h6 (I8 w3 F2 h6.pers [67,76,65,73,77,69,68] 0 1000000 158) ?_;rintro _ F3 w4 h9 h2 ⟨Y,h0,h1,Z,rfl,f9,ha,hb,hc⟩;refine Vs 1<|V 6 110 (Nh (t:=110) (parts:=#[(0,.tmp 1),(1,.tmp 2),(2,.tmp 3),(3,.tmp 4),(4,.tmp 5)]) (vs:=[(0,.agg #[fcv 153,fcv 154]),(1,.agg #[rdv G b2 b3 I,wrv G I]),(2,.agg #[rdv J b6 b7 O,wrv J O]),(3,.agg #[rdv Y h0 h1 Z,wrv Y Z]),(4,.agg #[fcv 159,fcv 160])]) rfl (cs:=[fcv 153,fcv 154,rdv G b2 b3 I,wrv G I,rdv J b6 b7 O,wrv J O,rdv Y h0 h1 Z,wrv Y Z,fcv 159,fcv 160]) (by kernel_rfl))<|St0 #[fcv 153,fcv 154,rdv G b2 b3 I,wrv G I,rdv J b6 b7 O,wrv J O,rdv Y h0 h1 Z,wrv Y Z,fcv 159,fcv 160] h9 (fun w5 h7=>?_);refine Aco<|Ab<|Rt ?_;exact⟨rfl,.agg #[fcv 153,fcv 154,rdv G b2 b3 I,wrv G I,rdv J b6 b7 O,wrv J O,rdv Y h0 h1 Z,wrv Y Z,fcv 159,fcv 160],AK (l:=[.cell 0 110]) (by kernel_rfl) (vs:=[.agg #[fcv 153,fcv 154,rdv G b2 b3 I,wrv G I,rdv J b6 b7 O,wrv J O,rdv Y h0 h1 Z,wrv Y Z,fcv 159,fcv 160]]) ⟨b0,0,rfl,Al (t:=110) (g:=true) (s:=10) (by kernel_rfl) h7.at0 rfl (by decide),trivial⟩,.agg #[fcv 153,fcv 154,rdv G b2 b3 I,wrv G I,rdv J b6 b7 O,wrv J O,rdv Y h0 h1 Z,wrv Y Z,fcv 159,fcv 160],F3,rfl,h7.clear,G,b2,b3,I,J,b6,b7,O,Y,h0,h1,Z,rfl,h2 _ _ (h3 _ _ f1),h2 _ _ (h3 _ _ f2),h2 _ _ (h3 _ _ f3),h2 _ _ (h3 _ _ f4),h2 _ _ f5,h2 _ _ f6,h2 _ _ f7,h2 _ _ f8,f9,ha,hb,hc⟩
def MV(N:Nat)(I:Ac)(J:Log)(h1:(Int×Int))(h2 h3 h4 h5 h6 h7 h8 h9 ha hb hc hg hh hm hn:AcP):(Int×AcP)->Option (A2 (AcP×Int) (Int×AcP)):=fun G=>
 (bif(decide (G.1 < (J.Lines.length:Int)))then((idx J.Lines G.1).bind fun O=>((Ff N (lY I) O).bind fun Y=>((A5 Y.1 ([10]:AcP)).bind fun Z=>((K0 G.2 Z).bind fun h0=>some (.next ((W64 (G.1 + 1)),h0))))))else some (.done (G.1,G.2)))
def Rq(N:Nat)(I:Ac)(G:Log):Option (AcP×Int):=
 ((KG N (lY I) G).bind fun J=>bif(J.1 !=0)then none else((N8 N G).bind fun O=>((A5 O ([10]:AcP)).bind fun Y=>((K0 ([]:AcP) Y).bind fun Z=>((Kd N G ([67,65,84,69,71,79,82,89]:AcP)).bind fun h0=>((A5 h0 ([10]:AcP)).bind fun h1=>((K0 Z h1).bind fun h2=>((Kb N G ([80,79,87,69,82]:AcP)).bind fun h3=>((A5 h3 ([10]:AcP)).bind fun h4=>((K0 h2 h4).bind fun h5=>((Kc N G ([67,76,65,73,77,69,68]:AcP)).bind fun h6=>((A5 h6 ([10]:AcP)).bind fun h7=>((K0 h5 h7).bind fun h8=>((K5 N G).bind fun h9=>((A5 h9 ([10]:AcP)).bind fun ha=>((K0 h8 ha).bind fun hb=>((AF (MV N I G J O Y Z h0 h1 h2 h3 h4 h5 h6 h7 h8 h9 ha hb) N (0,hb)).bind fun o=>o.k (fun r=>some r) (fun hc=>((K0 hc.2 ([69,78,68,10]:AcP)).bind fun hg=>some (hg,0))))))))))))))))))))
theorem T9(N:Nat)(w0:World)(F0:Mem)(hF:AcR w0 F0)(hG:BH F0)(Z:Ac)(J:Log)(h5:AcQ)(h6:Nat)(hz:LC J.Jumps.length h6)(b0:SlA AO F0 h5 J.Jumps)(h2:AcQ)(h3:Nat)(b1:LC J.Lines.length h3)(hx:SlA AR F0 h2 J.Lines)(r:(AcP×Int))(h:Rq N Z J=some r):
  cA 29 [.agg (Ah Z),.agg (AM J h5 h6 h2 h3)] w0 F0 (.tuple #[sv r.1,vi r.2]):=by
 have ce:=Acv hF;refine Go 54 Tryz.func29<|sR (rG 4)<|Bx' 23 (Ah Z) ce (fun hb ij cf=>?_);refine Bx' 27 (AM J h5 h6 h2 h3) cf (fun ho cg b6=>?_);refine Vs 2<|Nss<|sR (rG 8)<|Ld b6.at1<|Ld b6.at0 ?_;obtain⟨ch,ci,cj⟩:=bS h;refine Cl' (cO 23) b6 (KW N cg F0 b6.pers hG (lY Z) J h5 h6 hz b0 h2 h3 b1 hx _ ci) ?_;rintro _ F1 ik cl h9 rfl;refine Vs 5<|nR [0,1]<|Vs 2<|Nt<|Cd cj (fun cm cn=>?_) (fun cm co=>?_)
 ·cases cn
 ·refine Sc<|Ab<|sR [0]<|Al' 105 #[.pointer none,.slice none 0 0] cl (fun b7 bo cp=>?_);obtain⟨cq,cr,hJ43⟩:=HY.new cp;have bp:HS w0 F0 bo F1 ((sb ho (AM J h5 h6 h2 h3) 27)::(sb hb (Ah Z) 23)::cq):=cr;refine Nss<|sR [0,1]<|Cl' (cO 89) bp (Iq bo F1 bp.pers) ?_;rintro _ F2 io ct h8 ⟨G,hc,hg,I,O,hm,hn,Y,h0,hp,hq,h1,rfl,cu,ip,iq,cv,cw,ir,it,cx,cy,iu,iv,cz⟩;refine Vs 1<|Nt<|Bk<|CWP.unroll (by kernel_rfl) 6<|URL.step<|sR [0]<|Vs 1<|Nss<|C1 rT<|Sc<|Ab<|Sq<|Bk<|sR [0,1,2] ?_;refine V 27 109 (J6 (t:=110) (E:=109) (len:=5) (s:=2) (x:=.tmp 24) (y:=.tmp 25) (k:=.i64) (i:=0) (cs:=tB G hc hg I O hm hn Y h0 hp hq h1) (C:=[fV 153 #[],fV 154 #[]]) rfl rfl (by kernel_rfl) (by kernel_rfl) (by decide) rfl rfl)<|Al' 109 #[.nilFunc,.nilFunc] ct (fun ht iw d0=>?_);refine St0 #[fV 153 #[],fV 154 #[]] d0 (fun d1 b8=>?_);refine Nt<|Rg (rG 6)<|Vs 1<|Ld b8.at0<|Ld b8.at1 ?_;obtain⟨bq,d2,d3⟩:=bS co;refine Cl' (cO 154) b8 (Sh N d1 F2 b8.pers J h5 h6 hz (Acw b0 (h9.t h8)) h2 h3 b1 (Acw hx (h9.t h8)) _ d2) ?_;rintro _ F3 iy d4 h4 rfl;obtain⟨br,d6,d7⟩:=bS d3;refine V 32 9 (aZ (.tmp 31) (.const (sv ([10]:AcP))) d6) ?_;obtain⟨d8,d9,da⟩:=bS d7;refine CB (cO 90) (FV (L:=[sb ht #[fV 153 #[],fV 154 #[]] 109,sb ho (AM J h5 h6 h2 h3) 27,sb hb (Ah Z) 23]) d9 (HY.mono _ _ _ _ hJ43 (h8.t h4)) d4) ?_;rintro _ F4 db _ dc h7 ⟨rfl,dd,rfl,hJ72⟩;have de:HS w0 F0 db F4 ((sb ht #[fV 153 #[],fV 154 #[]] 109)::(sb ho (AM J h5 h6 h2 h3) 27)::(sb hb (Ah Z) 23)::dd):=dc;refine Aco<|Am<|Ab<|Rg [0,1]<|Vs 2<|Nt<|URL.step<|sR [0] ?_;refine Vs 1<|Nss<|C1 rT<|Sc<|Ab<|Sq<|Bk<|sR [0,1,2]<|V 27 109 (J6 (t:=110) (E:=109) (len:=5) (s:=2) (x:=.tmp 24) (y:=.tmp 25) (k:=.i64) (i:=1) (cs:=tB G hc hg I O hm hn Y h0 hp hq h1) (C:=[fV 190 #[pt G 0,pt hc 0,pt hg 0,pt I 0],fV 191 #[pt G 0,pt I 0]]) rfl rfl (by kernel_rfl) (by kernel_rfl) (by decide) rfl rfl)<|Al' 109 #[.nilFunc,.nilFunc] de (fun hw iz df=>?_);refine St0 #[fV 190 #[pt G 0,pt hc 0,pt hg 0,pt I 0],fV 191 #[pt G 0,pt I 0]] df (fun dg b9=>?_);refine Nt<|Rg (rG 6)<|Vs 1<|Ld b9.at0<|Ld b9.at2 ?_;obtain⟨bs,dh,di⟩:=bS da;refine Cl' (cO 191) b9 (NF N dg F4 b9.pers (hG.mono (((h9.t h8).trans h4).trans h7)) J h5 h6 hz (Acw b0 (((h9.t h8).trans h4).trans h7)) h2 h3 b1 (Acw hx (((h9.t h8).trans h4).trans h7)) G ([67,65,84,69,71,79,82,89]:AcP) ((h4.t h7) _ _ cu) I ((h4.t h7) _ _ cv) _ dh) ?_;rintro _ F5 j0 dj ha rfl;obtain⟨bt,dk,dl⟩:=bS di;refine V 32 9 (aZ (.tmp 31) (.const (sv ([10]:AcP))) dk) ?_;obtain⟨dm,dn,dp⟩:=bS dl;refine CB (cO 90) (FV (L:=[sb hw #[fV 190 #[pt G 0,pt hc 0,pt hg 0,pt I 0],fV 191 #[pt G 0,pt I 0]] 109,sb ht #[fV 153 #[],fV 154 #[]] 109,sb ho (AM J h5 h6 h2 h3) 27,sb hb (Ah Z) 23]) dn (HY.mono _ _ _ _ hJ72 ha) dj) ?_;rintro _ F6 dq _ dr hh ⟨rfl,ds,rfl,hJ97⟩;have dt:HS w0 F0 dq F6 ((sb hw #[fV 190 #[pt G 0,pt hc 0,pt hg 0,pt I 0],fV 191 #[pt G 0,pt I 0]] 109)::(sb ht #[fV 153 #[],fV 154 #[]] 109)::(sb ho (AM J h5 h6 h2 h3) 27)::(sb hb (Ah Z) 23)::ds):=dr;refine Aco<|Am<|Ab<|Rg [0,1]<|Vs 2<|Nt<|URL.step<|sR [0] ?_;refine Vs 1<|Nss<|C1 rT<|Sc<|Ab<|Sq<|Bk<|sR [0,1,2]<|V 27 109 (J6 (t:=110) (E:=109) (len:=5) (s:=2) (x:=.tmp 24) (y:=.tmp 25) (k:=.i64) (i:=2) (cs:=tB G hc hg I O hm hn Y h0 hp hq h1) (C:=[fV 190 #[pt O 0,pt hm 0,pt hn 0,pt Y 0],fV 191 #[pt O 0,pt Y 0]]) rfl rfl (by kernel_rfl) (by kernel_rfl) (by decide) rfl rfl)<|Al' 109 #[.nilFunc,.nilFunc] dt (fun b2 j1 du=>?_);refine St0 #[fV 190 #[pt O 0,pt hm 0,pt hn 0,pt Y 0],fV 191 #[pt O 0,pt Y 0]] du (fun dv ba=>?_);refine Nt<|Rg (rG 6)<|Vs 1<|Ld ba.at0<|Ld ba.at3 ?_;obtain⟨bu,dw,dx⟩:=bS dp;refine Cl' (cO 191) ba (ND N dv F6 ba.pers (hG.mono (((((h9.t h8).trans h4).trans h7).trans ha).trans hh)) J h5 h6 hz (Acw b0 (((((h9.t h8).trans h4).trans h7).trans ha).trans hh)) h2 h3 b1 (Acw hx (((((h9.t h8).trans h4).trans h7).trans ha).trans hh)) O ([80,79,87,69,82]:AcP) ((((h4.t h7).trans ha).trans hh) _ _ cw) Y ((((h4.t h7).trans ha).trans hh) _ _ cx) _ dw) ?_;rintro _ F7 j2 dy hr rfl;obtain⟨bv,dz,e0⟩:=bS dx;refine V 32 9 (aZ (.tmp 31) (.const (sv ([10]:AcP))) dz) ?_;obtain⟨e1,e2,e3⟩:=bS e0;refine CB (cO 90) (FV (L:=[sb b2 #[fV 190 #[pt O 0,pt hm 0,pt hn 0,pt Y 0],fV 191 #[pt O 0,pt Y 0]] 109,sb hw #[fV 190 #[pt G 0,pt hc 0,pt hg 0,pt I 0],fV 191 #[pt G 0,pt I 0]] 109,sb ht #[fV 153 #[],fV 154 #[]] 109,sb ho (AM J h5 h6 h2 h3) 27,sb hb (Ah Z) 23]) e2 (HY.mono _ _ _ _ hJ97 hr) dy) ?_;rintro _ F8 e4 _ e6 hu ⟨rfl,e7,rfl,hJ122⟩;have e8:HS w0 F0 e4 F8 ((sb b2 #[fV 190 #[pt O 0,pt hm 0,pt hn 0,pt Y 0],fV 191 #[pt O 0,pt Y 0]] 109)::(sb hw #[fV 190 #[pt G 0,pt hc 0,pt hg 0,pt I 0],fV 191 #[pt G 0,pt I 0]] 109)::(sb ht #[fV 153 #[],fV 154 #[]] 109)::(sb ho (AM J h5 h6 h2 h3) 27)::(sb hb (Ah Z) 23)::e7):=e6;refine Aco<|Am<|Ab<|Rg [0,1]<|Vs 2<|Nt<|URL.step<|sR [0] ?_;refine Vs 1<|Nss<|C1 rT<|Sc<|Ab<|Sq<|Bk<|sR [0,1,2]<|V 27 109 (J6 (t:=110) (E:=109) (len:=5) (s:=2) (x:=.tmp 24) (y:=.tmp 25) (k:=.i64) (i:=3) (cs:=tB G hc hg I O hm hn Y h0 hp hq h1) (C:=[fV 190 #[pt h0 0,pt hp 0,pt hq 0,pt h1 0],fV 191 #[pt h0 0,pt h1 0]]) rfl rfl (by kernel_rfl) (by kernel_rfl) (by decide) rfl rfl)<|Al' 109 #[.nilFunc,.nilFunc] e8 (fun bb j3 e9=>?_);refine St0 #[fV 190 #[pt h0 0,pt hp 0,pt hq 0,pt h1 0],fV 191 #[pt h0 0,pt h1 0]] e9 (fun ea bc=>?_);refine Nt<|Rg (rG 6)<|Vs 1<|Ld bc.at0<|Ld bc.at4 ?_;obtain⟨bw,eb,ec⟩:=bS e3;refine Cl' (cO 191) bc (NE N ea F8 bc.pers (hG.mono (((((((h9.t h8).trans h4).trans h7).trans ha).trans hh).trans hr).trans hu)) J h5 h6 hz (Acw b0 (((((((h9.t h8).trans h4).trans h7).trans ha).trans hh).trans hr).trans hu)) h2 h3 b1 (Acw hx (((((((h9.t h8).trans h4).trans h7).trans ha).trans hh).trans hr).trans hu)) h0 ([67,76,65,73,77,69,68]:AcP) ((((((h4.t h7).trans ha).trans hh).trans hr).trans hu) _ _ cy) h1 ((((((h4.t h7).trans ha).trans hh).trans hr).trans hu) _ _ cz) _ eb) ?_;rintro _ F9 j4 ed b3 rfl;obtain⟨bx,ee,ef⟩:=bS ec;refine V 32 9 (aZ (.tmp 31) (.const (sv ([10]:AcP))) ee) ?_;obtain⟨eg,eh,ei⟩:=bS ef;refine CB (cO 90) (FV (L:=[sb bb #[fV 190 #[pt h0 0,pt hp 0,pt hq 0,pt h1 0],fV 191 #[pt h0 0,pt h1 0]] 109,sb b2 #[fV 190 #[pt O 0,pt hm 0,pt hn 0,pt Y 0],fV 191 #[pt O 0,pt Y 0]] 109,sb hw #[fV 190 #[pt G 0,pt hc 0,pt hg 0,pt I 0],fV 191 #[pt G 0,pt I 0]] 109,sb ht #[fV 153 #[],fV 154 #[]] 109,sb ho (AM J h5 h6 h2 h3) 27,sb hb (Ah Z) 23]) eh (HY.mono _ _ _ _ hJ122 b3) ed) ?_;rintro _ bz ej _ ek b5 ⟨rfl,el,rfl,hJ147⟩;have en:HS w0 F0 ej bz ((sb bb #[fV 190 #[pt h0 0,pt hp 0,pt hq 0,pt h1 0],fV 191 #[pt h0 0,pt h1 0]] 109)::(sb b2 #[fV 190 #[pt O 0,pt hm 0,pt hn 0,pt Y 0],fV 191 #[pt O 0,pt Y 0]] 109)::(sb hw #[fV 190 #[pt G 0,pt hc 0,pt hg 0,pt I 0],fV 191 #[pt G 0,pt I 0]] 109)::(sb ht #[fV 153 #[],fV 154 #[]] 109)::(sb ho (AM J h5 h6 h2 h3) 27)::(sb hb (Ah Z) 23)::el):=ek;refine Aco<|Am<|Ab<|Rg [0,1]<|Vs 2<|Nt<|URL.step<|sR [0] ?_;refine Vs 1<|Nss<|C1 rT<|Sc<|Ab<|Sq<|Bk<|sR [0,1,2]<|V 27 109 (J6 (t:=110) (E:=109) (len:=5) (s:=2) (x:=.tmp 24) (y:=.tmp 25) (k:=.i64) (i:=4) (cs:=tB G hc hg I O hm hn Y h0 hp hq h1) (C:=[fV 159 #[],fV 160 #[]]) rfl rfl (by kernel_rfl) (by kernel_rfl) (by decide) rfl rfl)<|Al' 109 #[.nilFunc,.nilFunc] en (fun c0 j5 eo=>?_);refine St0 #[fV 159 #[],fV 160 #[]] eo (fun ep bd=>?_);refine Nt<|Rg (rG 6)<|Vs 1<|Ld bd.at0<|Ld bd.at5 ?_;obtain⟨c1,er,et⟩:=bS ei;refine Cl' (cO 160) bd (OG N ep bz bd.pers (hG.mono (((((((((h9.t h8).trans h4).trans h7).trans ha).trans hh).trans hr).trans hu).trans b3).trans b5)) J h5 h6 hz (Acw b0 (((((((((h9.t h8).trans h4).trans h7).trans ha).trans hh).trans hr).trans hu).trans b3).trans b5)) h2 h3 b1 (Acw hx (((((((((h9.t h8).trans h4).trans h7).trans ha).trans hh).trans hr).trans hu).trans b3).trans b5)) _ er) ?_;rintro _ j6 j7 eu bk rfl;obtain⟨c3,ev,ew⟩:=bS et;refine V 32 9 (aZ (.tmp 31) (.const (sv ([10]:AcP))) ev) ?_;obtain⟨c4,ex,ey⟩:=bS ew;refine CB (cO 90) (FV (L:=[sb c0 #[fV 159 #[],fV 160 #[]] 109,sb bb #[fV 190 #[pt h0 0,pt hp 0,pt hq 0,pt h1 0],fV 191 #[pt h0 0,pt h1 0]] 109,sb b2 #[fV 190 #[pt O 0,pt hm 0,pt hn 0,pt Y 0],fV 191 #[pt O 0,pt Y 0]] 109,sb hw #[fV 190 #[pt G 0,pt hc 0,pt hg 0,pt I 0],fV 191 #[pt G 0,pt I 0]] 109,sb ht #[fV 153 #[],fV 154 #[]] 109,sb ho (AM J h5 h6 h2 h3) 27,sb hb (Ah Z) 23]) ex (HY.mono _ _ _ _ hJ147 bk) eu) ?_;rintro _ be ez _ g0 c5 ⟨rfl,c6,rfl,hJ172⟩;have c7:HS w0 F0 ez be ((sb c0 #[fV 159 #[],fV 160 #[]] 109)::(sb bb #[fV 190 #[pt h0 0,pt hp 0,pt hq 0,pt h1 0],fV 191 #[pt h0 0,pt h1 0]] 109)::(sb b2 #[fV 190 #[pt O 0,pt hm 0,pt hn 0,pt Y 0],fV 191 #[pt O 0,pt Y 0]] 109)::(sb hw #[fV 190 #[pt G 0,pt hc 0,pt hg 0,pt I 0],fV 191 #[pt G 0,pt I 0]] 109)::(sb ht #[fV 153 #[],fV 154 #[]] 109)::(sb ho (AM J h5 h6 h2 h3) 27)::(sb hb (Ah Z) 23)::c6):=g0;refine Aco<|Am<|Ab<|Rg [0,1]<|Vs 2<|Nt<|URL.step<|sR [0] ?_;refine Vs 1<|Nss<|C0 rF<|Ex<|Ak<|Ak<|Av rfl<|Ab<|Sq ?_;refine sR (rG 4)<|Vs 1<|Ld c7.at5<|Vs 2<|Nt ?_;have g1:=c7.dr0.dr0.dr0.dr0.dr0;obtain⟨c8,g2,g3⟩:=bS ey;refine AcA (fun f w=>∃(bl:(Int×AcP))(bf:_)(bm:Own),c8=.done bl/\HS w0 F0 w bf bm/\Acs be bf/\FI f [] [(8,(pt b7 0))]/\HY b7 bl.2 bf bm) ?_ ?_
  ·refine Bk<|Acr (by kernel_rfl) (fun m f w=>∃(hy:(Int×AcP))(b4:Mem)(bg:Own),AF (MV N Z J ch bq br d8 bs bt dm bu bv e1 bw bx eg c1 c3 c4) m hy=some c8/\HS w0 F0 w b4 ((sb hb (Ah Z) 23)::bg)/\Acs be b4/\FI f [] [(2,(pt hb 0)),(8,(pt b7 0)),(36,(sL h2 J.Lines h3)),(37,(vi (J.Lines.length:Int))),(38,(vi hy.1))]/\HY b7 hy.2 b4 bg) N ⟨(0,c4),be,c6,g2,g1.dr0,Acu _,fI,hJ172⟩ ?_;rintro j8 f j9 ⟨hy,b4,bg,g4,bn,bh,⟨_,rfl⟩,hJ183⟩;obtain⟨g5,ja,rfl,g6,c9⟩:=AB g4;refine sR [0]<|Vs 1<|Nss<|Cd g6 (fun g7 g8=>?_) (fun g7 g9=>?_)
   ·refine Sc<|Ab<|Sq<|Bk<|sR (rG 4) ?_;obtain⟨bi,ga,gh⟩:=bS g8;obtain⟨gi,hx208'⟩:=Ag ga;obtain⟨jb,jc,jd,je,jf,rfl,hF217,hE218⟩:=AcB (Acw hx ((((((((((((h9.t h8).trans h4).trans h7).trans ha).trans hh).trans hr).trans hu).trans b3).trans b5).trans bk).trans c5).trans bh)) hx208';have gk:=hE218 _ _ hx208';refine Ix gi<|Lx 0 (bn.pers _ _ hF217) gk<|Al' 34 zA bn (fun ca jg gl=>?_);refine St0 (Cj bi) gl (fun gm bj=>?_);refine nR (rG 8)<|Ld bj.at1<|Ld bj.at0 ?_;obtain⟨gn,go,gp⟩:=bS gh;refine Cl' (cO 27) bj (Ks N gm b4 bj.pers (hG.mono ((((((((((((h9.t h8).trans h4).trans h7).trans ha).trans hh).trans hr).trans hu).trans b3).trans b5).trans bk).trans c5).trans bh)) (lY Z) bi _ go) ?_;rintro _ jh ji gr cb rfl;refine Vs 5<|Nt<|Rg [0,1,2]<|Vs 1 ?_;obtain⟨gs,gu,gv⟩:=bS gp;refine V 49 9 (aZ (.tmp 48) (.const (sv ([10]:AcP))) gu) ?_;obtain⟨gw,gx,gy⟩:=bS gv;refine CB (cO 90) (FV (L:=[sb ca (Cj bi) 34,sb hb (Ah Z) 23]) gx (HY.mono _ _ _ _ hJ183 cb) gr) ?_;rintro _ cc gz _ i0 i1 ⟨rfl,cd,rfl,hJ244⟩;have i2:HS w0 F0 gz cc ((sb ca (Cj bi) 34)::(sb hb (Ah Z) 23)::cd):=i0;refine Aco<|Am<|Ab<|Rg [0,1]<|Vs 2<|Aco ?_;have i3:=Ay gy c9;exact⟨g5,xF _,((W64 (hy.1 + 1)),gw),cc,cd,i3,i2.dr0,(bh.t cb).trans i1,fI,hJ244⟩
   ·refine Ex<|Ak<|Ak<|Av rfl ?_;have i4:=AA g9 c9;exact .inl ⟨rfl,(hy.1,hy.2),b4,bg,i4,bn.dr0,bh,fI,hJ183⟩
  ·rintro f jj ⟨bl,bf,bm,rfl,i5,jk,⟨_,rfl⟩,hJ195⟩;have i6:=AW g3;refine Ab<|sR [0] ?_;obtain⟨i7,i8,i9⟩:=bS i6;refine CB (cO 90) (FV (L:=[]) i8 hJ195 i5) ?_;rintro _ ia ib ic ie jl ⟨rfl,_,rfl,hJ256⟩;have ig:HS w0 F0 ib ia ic:=ie;refine nR [0,1,2]<|CB (cO 91) (Tp (L:=[]) hJ256 ig) ?_;rintro _ _ jm _ ii _ ⟨rfl,rfl,rfl⟩;refine Vs 2<|Nt<|Rt ?_;obtain rfl:=Aa i9;exact Re [sv i7,vi 0] ii rfl
def AU(N:Nat)(I:AcP):Option (Int×Bool):=
 ((CW N I).bind fun G=>((bif(!G.2)then((strconv_Itoa N G.1).bind fun J=>some (J==I))else some false).bind fun O=>some (G.1,O)))
theorem B4(N:Nat)(w0:World)(F0:Mem)(hF:AcR w0 F0)(hG:BH F0)(I:AcP)(r:(Int×Bool))(h:AU N I=some r):
  cA 95 [sv I] w0 F0 (.tuple #[vi r.1,.bool r.2]):=by
 have Z:=Acv hF;refine Go 20 Tryz.func95<|sR [0,1]<|Vs 2<|nR (rG 7)<|Vs 1 ?_;obtain⟨J,h1,h2⟩:=bS h;refine Cl' (cO 163) Z (L6 N w0 F0 Z.pers hG I _ h1) ?_;rintro _ F1 h3 O h4 ⟨hm,rfl,h5⟩;refine Vs 5<|nR (rG 11) ?_;obtain⟨h0,h6,h7⟩:=bS h2;refine Acz (kP w0 F0 F1 [] [] [(2,(vi J.1)),(3,(.bool h0))]) ?_ ?_
 ·refine Vs 2<|V 13 4 (VE (t:=113) (t':=113) (x:=.tmp 12) (c:=.nilIface) h5 rfl rfl (by kernel_rfl))<|Vs 1<|Sp h6 (fun G h8=>?_) (fun G h9=>?_)
  ·refine Vgs G 1 ?_;obtain⟨hn,ha,hb⟩:=bS h8;refine Cg G (cO 85) O (Ba N h3 F1 O.pers (hG.mono h4) J.1 _ ha) ?_;rintro _ F3 ho hc hg rfl;refine Vgs G 2<|Pk1 G<|Vs 2 ?_;obtain rfl:=Aa hb;exact Aco ⟨rfl,F3,hc,hg,fI⟩
  ·refine Ss G 4<|Pk0 G<|Vs 2 ?_;obtain rfl:=Aa h9;exact Aco ⟨rfl,F1,O,Acu _,fI⟩
 ·rintro f hp ⟨Y,hh,hq,⟨_,rfl⟩⟩;refine Ab<|Rt ?_;obtain rfl:=Aa h7;exact Re [vi J.1,.bool h0] hh rfl
def Fg(N:Nat)(I:Ac)(x1:AcP):Option (Line×Int):=
 ((strings_Split N x1 ([32]:AcP)).bind fun G=>((A8 N G ([60]:AcP)).bind fun Z=>((bif(decide ((G.length:Int) < 9))then some true else(bif(decide (Z < 8))then some true else((idx G 7).bind fun h6=>some (h6 !=([62]:AcP))))).bind fun h7=>(bif h7 then some (zL,20)else((idx G 1).bind fun h8=>((AU N h8).bind fun h2=>((idx G 2).bind fun h9=>((AU N h9).bind fun h3=>(((idx G 4).bind fun ha=>((A5 ha ([32]:AcP)).bind fun hb=>((idx G 5).bind fun hc=>((A5 hb hc).bind fun hg=>((HB N hg).bind fun hh=>some hh.1))))).bind fun h4=>(((sub G 8 Z).bind fun hm=>((strings_Join N hm ([32]:AcP)).bind fun hn=>((DK N (lY I) hn).bind fun h0=>some (h0.1.Report,h0.1.Serial,h0.1.Zone)))).bind fun J=>(((sub G (W64 (Z + 1)) (G.length:Int)).bind fun ho=>((strings_Join N ho ([32]:AcP)).bind fun hp=>((DK N (lY I) hp).bind fun h1=>some (h1.1.Report,h1.1.Serial,h1.1.Zone)))).bind fun O=>(((idx G 3).bind fun hq=>((idx G 6).bind fun hr=>((strings_Index N ([32,77,86,68]:AcP) hq).bind fun ht=>some (ht,hr)))).bind fun Y=>((Ff N (lY I) ({Num:=h2.1,Khz:=h3.1,Mode:=Y.1,Minute:=h4,Call:=Y.2,Sent:=({Report:=J.1,Serial:=J.2.1,Zone:=J.2.2}:Af),Got:=({Report:=O.1,Serial:=O.2.1,Zone:=O.2.2}:Af)}:Line)).bind fun h5=>bif((h5.2 !=0)||(h5.1 !=x1))then some (zL,20)else some (({Num:=h2.1,Khz:=h3.1,Mode:=Y.1,Minute:=h4,Call:=Y.2,Sent:=({Report:=J.1,Serial:=J.2.1,Zone:=J.2.2}:Af),Got:=({Report:=O.1,Serial:=O.2.1,Zone:=O.2.2}:Af)}:Line),0))))))))))))))
theorem Kt(N:Nat)(w0:World)(F0:Mem)(hF:AcR w0 F0)(hG:BH F0)(I:Ac)(x1:AcP)(r:(Line×Int))(h:Fg N I x1=some r):
  cA 31 [.agg (Ah I),sv x1] w0 F0 (.tuple #[.agg (Cj r.1),vi r.2]):=by
 have cu:=Acv hF;refine Go 112 Tryz.func31<|sR [0,1,2]<|Bx' 23 (Ah I) cu (fun h2 k6 cv=>?_);refine Al' 34 zA cv (fun O cw bs=>?_);refine Vs 1<|nR [0,1,2]<|Vs 1 ?_;obtain⟨ha,cx,cy⟩:=bS h;refine Cl' (cO 93) bs (EB N cw F0 bs.pers hG x1 ([32]:AcP) _ cx) ?_;rintro _ F1 cz bt h5 ⟨bu,hh,rfl,b7,hp⟩;refine Vs 1<|nR [0,1,2]<|Vs 1 ?_;obtain⟨hr,d0,d1⟩:=bS cy;refine Cl' (cO 94) bt (EC N cz F1 bt.pers ha bu hh b7 hp ([60]:AcP) _ d0) ?_;rintro _ F2 k7 b0 Z rfl;refine Vs 1<|Nss<|sR (rG 13) ?_;obtain⟨d2,d3,d4⟩:=bS d1;refine Acz (kP w0 F0 F2 [sb O zA 34,sb h2 (Ah I) 23] [] [(1,(sv x1)),(2,(pt h2 0)),(4,(pt O 0)),(6,(sL bu ha hh)),(7,(vi hr)),(37,(.bool d2))]) ?_ ?_
 ·refine Vs 4<|Sp d3 (fun ht d6=>?_) (fun ht d7=>?_)
  ·refine Ss ht 2<|Pk1 ht<|Vs 1<|Ss rT 4<|Pk1 rT ?_;obtain rfl:=Aa d6;exact Aco ⟨rfl,F2,b0,Acu _,fI⟩
  ·refine Vgs ht 2<|Pk0 ht<|Vs 1<|Sp d7 (fun hb d8=>?_) (fun hb d9=>?_)
   ·refine Ss hb 4<|Pk1 hb ?_;obtain rfl:=Aa d8;exact Aco ⟨rfl,F2,b0,Acu _,fI⟩
   ·refine Vgs hb 1 ?_;obtain⟨k8,da,db⟩:=bS d9;obtain⟨dc,hx63'⟩:=Ag da;obtain⟨k9,ka,kb,kc,kd,rfl,hF72,hE73⟩:=AcB (Acw hp Z) hx63';have dd:=hE73 _ _ hx63';refine Ixg hb dc<|Lxg hb 0 (b0.pers _ _ hF72) dd<|Vgs hb 1<|Pk0 hb ?_;obtain rfl:=Aa db;exact Aco ⟨rfl,F2,b0,Acu _,fI⟩
 ·rintro f de ⟨F3,b1,h1,⟨_,rfl⟩⟩;refine Ab<|Cd d4 (fun df dg=>?_) (fun df dh=>?_)
  ·refine sR [0,1,2]<|Vs 1<|St0 zA b1 (fun ke bv=>?_);refine Vs 1<|Nt<|Rt<|Ad ?_;obtain rfl:=Aa dg;exact⟨rfl,.tuple #[.agg zA,vi 20],aK [.cell 4 34,.tmp 5] [.agg zA,vi 20] ⟨O,0,rfl,aL 34 11 bv.at0,⟨rfl,trivial⟩⟩,.tuple #[.agg zA,vi 20],F3,rfl,bv.clear,rfl⟩
  ·refine Sc<|Ab<|sR (rG 9)<|Vs 1 ?_;obtain⟨di,dj,dk⟩:=bS dh;obtain⟨dl,hx82'⟩:=Ag dj;obtain⟨hu,hw,kf,kg,kh,rfl,hF91,hE92⟩:=AcB (Acw hp (Z.t h1)) hx82';have dm:=hE92 _ _ hx82';refine Ix dl<|Lx 0 (b1.pers _ _ hF91) dm ?_;obtain⟨h6,dn,dp⟩:=bS dk;refine Cl' (cO 95) b1 (B4 N de F3 b1.pers (hG.mono ((h5.t Z).trans h1)) di _ dn) ?_;rintro _ F4 dq b8 Y rfl;refine Vs 5<|nR (rG 9)<|Vs 1 ?_;obtain⟨dr,ds,dt⟩:=bS dp;obtain⟨du,hx104'⟩:=Ag ds;have dv:=hE92 _ _ hx104';refine Ix du<|Lx 0 (b8.pers _ _ (Y _ _ hF91)) dv ?_;obtain⟨h7,dw,dx⟩:=bS dt;refine Cl' (cO 95) b8 (B4 N dq F4 b8.pers (hG.mono (((h5.t Z).trans h1).trans Y)) dr _ dw) ?_;rintro _ F5 ki dy h0 rfl;refine Vs 5<|Nss ?_;obtain⟨h8,dz,e0⟩:=bS dx;refine RD 14 14 [sb O zA 34,sb h2 (Ah I) 23] [] dy (kP w0 F0 F5 [sb O zA 34,sb h2 (Ah I) 23] [] [(1,(sv x1)),(2,(pt h2 0)),(4,(pt O 0)),(6,(sS hu hw ha hh)),(7,(vi hr)),(8,(vi h6.1)),(10,(vi h7.1)),(12,(vi h8))]) (fun e1 bw=>?_) ?_
   ·refine Dv [0] ?_;obtain⟨e2,e3,e4⟩:=bS dz;obtain⟨e6,hx135'⟩:=Ag e3;have e7:=hE92 _ _ hx135';refine Di 1 e6<|Dx 2 0 (fun _ hq=>hq.1.1 _ _ ((Y.t h0) _ _ hF91)) e7 ?_;obtain⟨b9,e8,e9⟩:=bS e4;refine Dt 3 57 9 (sv b9) (fun _ hq=>aZ (.tmp 56) (.const (sv ([32]:AcP))) e8)<|Dv [4] ?_;obtain⟨ea,eb,ec⟩:=bS e9;obtain⟨ed,hx144'⟩:=Ag eb;have ee:=hE92 _ _ hx144';refine Di 5 ed<|Dx 6 0 (fun _ hq=>hq.1.1 _ _ ((Y.t h0) _ _ hF91)) ee ?_;obtain⟨ba,ef,eg⟩:=bS ec;refine Dt 7 61 9 (sv ba) (fun _ hq=>aZ (.tmp 57) (.tmp 60) ef)<|D1 8 ?_;obtain⟨kj,eh,ei⟩:=bS eg;refine DCl Pg bw (Qo N e1 F5 bw.pers (hG.mono ((((h5.t Z).trans h1).trans Y).trans h0)) ba _ eh) ?_;rintro _ F7 kl ej ek rfl;refine Dv [9,10,11,12,13] ?_;obtain rfl:=Aa ei;exact AcG (by kernel_rfl) ⟨F7,ej,ek,fI⟩
   ·rintro f km ⟨F6,el,h4,⟨_,rfl⟩⟩;refine Ab<|Sq ?_;obtain⟨G,en,eo⟩:=bS e0;refine RD 12 12 [sb O zA 34,sb h2 (Ah I) 23] [] el (fun f w=>∃F8 hm,HS w0 F0 w F8 [sb hm #[vi G.1,vi G.2.1,vi G.2.2] 32,sb O zA 34,sb h2 (Ah I) 23]/\Acs F6 F8/\FI f [] [(1,(sv x1)),(2,(pt h2 0)),(4,(pt O 0)),(6,(sS hu hw ha hh)),(7,(vi hr)),(8,(vi h6.1)),(10,(vi h7.1)),(12,(vi h8)),(14,(pt hm 0))]) (fun ep bb=>?_) ?_
    ·refine Dl 0 (fun _ hq=>hq.1.2 1 _ _ rfl) ?_;refine Dv [1,2] ?_;obtain⟨b2,er,bx⟩:=bS en;obtain⟨bc,bd,bz,c0,et⟩:=GT (P:=Tryz.prog) (T:=AJ) (lo:=some (.const (vi 8))) (hi:=some (.tmp 68)) (mx:=none) (t:=55) (E:=9) (by_:=16) (c:=hh) (a:=some ⟨hu,hw,none⟩) (l:=ha) (r:=b2) (il:=8) (ih:=hr) (im:=0) (by kernel_rfl) (by kernel_rfl) b7 (Acw hp ((((Z.t h1).trans Y).trans h0).trans h4)) (fun h=>by first | rfl | cases h) er;refine Dt 3 69 55 (sL bc b2 bd) (fun _ hq=>et (x:=.tmp 67) rfl rfl rfl trivial)<|AcC (i:=4) (j:=9) (by kernel_rfl) ?_ ?_
     ·obtain⟨c1,eu,c3⟩:=bS bx;refine DCl (cO 84) bb (D4 N ep F6 bb.pers b2 bc bd bz c0 ([32]:AcP) _ eu) ?_;rintro _ F9 ev be hc rfl;refine AcC (i:=5) (j:=9) (by kernel_rfl) ?_ ?_
      ·obtain⟨ew,ex,ey⟩:=bS c3;refine DCl Cb be (Cs N ev F9 be.pers (hG.mono ((((((h5.t Z).trans h1).trans Y).trans h0).trans h4).trans hc)) (lY I) c1 _ ex) ?_;rintro _ ez kn g0 bf rfl;refine Dv [6,7,8]<|D1 9<|DAl 32 #[vi 0,vi 0,vi 0] g0 (hc.t bf) (fun g1 ko g2=>?_);refine D1 10<|EF (Bc ew.1) g2 (hc.t bf) (fun kp g3=>?_);refine Dv [11] ?_;obtain rfl:=Aa ey;exact AcG (by kernel_rfl) ⟨ez,g1,g3,hc.t bf,fI⟩
      ·refine DAl 32 #[vi 0,vi 0,vi 0] be hc (fun g4 g5 c4=>?_);refine D1 5 ?_;obtain⟨g6,g7,g8⟩:=bS c3;refine DCl Cb c4 (Cs N g5 F9 c4.pers (hG.mono ((((((h5.t Z).trans h1).trans Y).trans h0).trans h4).trans hc)) (lY I) c1 _ g7) ?_;rintro _ g9 kr ga c5 rfl;refine Dv [6,7,8]<|D1 10<|EF (Bc g6.1) ga (hc.t c5) (fun ks gh=>?_);refine Dv [11] ?_;obtain rfl:=Aa g8;exact AcG (by kernel_rfl) ⟨g9,g4,gh,hc.t c5,fI⟩
     ·refine DAl 32 #[vi 0,vi 0,vi 0] bb (Acu _) (fun gi gk c6=>?_);refine D1 4 ?_;obtain⟨gl,gm,gn⟩:=bS bx;refine DCl (cO 84) c6 (D4 N gk F6 c6.pers b2 bc bd bz c0 ([32]:AcP) _ gm) ?_;rintro _ go gp c7 bg rfl;refine D1 5 ?_;obtain⟨gr,gs,gu⟩:=bS gn;refine DCl Cb c7 (Cs N gp go c7.pers (hG.mono ((((((h5.t Z).trans h1).trans Y).trans h0).trans h4).trans bg)) (lY I) gl _ gs) ?_;rintro _ gv kt gw c8 rfl;refine Dv [6,7,8]<|D1 10<|EF (Bc gr.1) gw (bg.t c8) (fun ku gx=>?_);refine Dv [11] ?_;obtain rfl:=Aa gu;exact AcG (by kernel_rfl) ⟨gv,gi,gx,bg.t c8,fI⟩
    ·rintro f kw ⟨F8,hm,gy,h9,⟨_,rfl⟩⟩;refine Ab<|Sq ?_;obtain⟨J,gz,i0⟩:=bS eo;refine RD 13 13 [sb hm #[vi G.1,vi G.2.1,vi G.2.2] 32,sb O zA 34,sb h2 (Ah I) 23] [] gy (fun f w=>∃ho b3,HS w0 F0 w ho [sb b3 #[vi J.1,vi J.2.1,vi J.2.2] 32,sb hm #[vi G.1,vi G.2.1,vi G.2.2] 32,sb O zA 34,sb h2 (Ah I) 23]/\Acs F8 ho/\FI f [] [(1,(sv x1)),(2,(pt h2 0)),(4,(pt O 0)),(6,(sS hu hw ha hh)),(8,(vi h6.1)),(10,(vi h7.1)),(12,(vi h8)),(14,(pt hm 0)),(16,(pt b3 0))]) (fun i1 bh=>?_) ?_
     ·refine Dl 0 (fun _ hq=>hq.1.2 2 _ _ rfl) ?_;refine Dv [1,2,3] ?_;obtain⟨b4,i2,c9⟩:=bS gz;obtain⟨bi,bj,ca,cb,i3⟩:=GT (P:=Tryz.prog) (T:=AJ) (lo:=some (.tmp 78)) (hi:=none) (mx:=none) (t:=55) (E:=9) (by_:=16) (c:=hh) (a:=some ⟨hu,hw,none⟩) (l:=ha) (r:=b4) (il:=W64 (hr + 1)) (ih:=(ha.length:Int)) (im:=0) (by kernel_rfl) (by kernel_rfl) b7 (Acw hp (((((Z.t h1).trans Y).trans h0).trans h4).trans h9)) (fun h=>by first | rfl | cases h) i2;refine Dt 4 79 55 (sL bi b4 bj) (fun _ hq=>i3 (x:=.tmp 76) rfl rfl rfl trivial)<|AcC (i:=5) (j:=10) (by kernel_rfl) ?_ ?_
      ·obtain⟨cc,i4,cd⟩:=bS c9;refine DCl (cO 84) bh (D4 N i1 F8 bh.pers b4 bi bj ca cb ([32]:AcP) _ i4) ?_;rintro _ ce i5 bk hg rfl;refine AcC (i:=6) (j:=10) (by kernel_rfl) ?_ ?_
       ·obtain⟨i6,i7,i8⟩:=bS cd;refine DCl Cb bk (Cs N i5 ce bk.pers (hG.mono (((((((h5.t Z).trans h1).trans Y).trans h0).trans h4).trans h9).trans hg)) (lY I) cc _ i7) ?_;rintro _ i9 ky ia bl rfl;refine Dv [7,8,9]<|D1 10<|DAl 32 #[vi 0,vi 0,vi 0] ia (hg.t bl) (fun ib kz ic=>?_);refine D1 11<|EF (Bc i6.1) ic (hg.t bl) (fun l0 ie=>?_);refine Dv [12] ?_;obtain rfl:=Aa i8;exact AcG (by kernel_rfl) ⟨i9,ib,ie,hg.t bl,fI⟩
       ·refine DAl 32 #[vi 0,vi 0,vi 0] bk hg (fun ig ii cf=>?_);refine D1 6 ?_;obtain⟨ij,ik,io⟩:=bS cd;refine DCl Cb cf (Cs N ii ce cf.pers (hG.mono (((((((h5.t Z).trans h1).trans Y).trans h0).trans h4).trans h9).trans hg)) (lY I) cc _ ik) ?_;rintro _ ip l1 iq cg rfl;refine Dv [7,8,9]<|D1 11<|EF (Bc ij.1) iq (hg.t cg) (fun l2 ir=>?_);refine Dv [12] ?_;obtain rfl:=Aa io;exact AcG (by kernel_rfl) ⟨ip,ig,ir,hg.t cg,fI⟩
      ·refine DAl 32 #[vi 0,vi 0,vi 0] bh (Acu _) (fun it iu ch=>?_);refine D1 5 ?_;obtain⟨iv,iw,iy⟩:=bS c9;refine DCl (cO 84) ch (D4 N iu F8 ch.pers b4 bi bj ca cb ([32]:AcP) _ iw) ?_;rintro _ iz j0 ci bm rfl;refine D1 6 ?_;obtain⟨j1,j2,j3⟩:=bS iy;refine DCl Cb ci (Cs N j0 iz ci.pers (hG.mono (((((((h5.t Z).trans h1).trans Y).trans h0).trans h4).trans h9).trans bm)) (lY I) iv _ j2) ?_;rintro _ j4 l3 j5 cj rfl;refine Dv [7,8,9]<|D1 11<|EF (Bc j1.1) j5 (bm.t cj) (fun l4 j6=>?_);refine Dv [12] ?_;obtain rfl:=Aa j3;exact AcG (by kernel_rfl) ⟨j4,it,j6,bm.t cj,fI⟩
     ·rintro f l5 ⟨ho,b3,j7,hx,⟨_,rfl⟩⟩;refine Ab<|Sq ?_;obtain⟨h3,j8,j9⟩:=bS i0;refine RD 14 15 [sb b3 #[vi J.1,vi J.2.1,vi J.2.2] 32,sb hm #[vi G.1,vi G.2.1,vi G.2.2] 32,sb O zA 34,sb h2 (Ah I) 23] [] j7 (fun f w=>∃b5 hy,HS w0 F0 w b5 [sb hy #[vi h6.1,vi h7.1,vi h3.1,vi h8,sv h3.2,vi G.1,vi G.2.1,vi G.2.2,vi J.1,vi J.2.1,vi J.2.2] 34,sb O zA 34,sb h2 (Ah I) 23]/\Acs ho b5/\FI f [] [(1,(sv x1)),(2,(pt h2 0)),(4,(pt O 0)),(18,(pt hy 0))]) (fun ja bn=>?_) ?_
      ·refine Dv [0,1,2] ?_;obtain⟨cl,jb,jc⟩:=bS j8;obtain⟨jd,hx339'⟩:=Ag jb;have je:=hE92 _ _ hx339';refine Di 3 jd<|Dx 4 0 (fun _ hq=>hq.1.1 _ _ (((((Y.t h0).trans h4).trans h9).trans hx) _ _ hF91)) je<|Dv [6,7] ?_;obtain⟨cm,jf,cn⟩:=bS jc;obtain⟨jg,hx345'⟩:=Ag jf;have jh:=hE92 _ _ hx345';refine Di 8 jg<|Dx 9 0 (fun _ hq=>hq.1.1 _ _ (((((Y.t h0).trans h4).trans h9).trans hx) _ _ hF91)) jh<|Dl 10 (fun _ hq=>hq.1.2 1 _ _ rfl)<|Dl 11 (fun _ hq=>hq.1.2 0 _ _ rfl)<|AcC (i:=5) (j:=13) (by kernel_rfl) ?_ ?_
       ·obtain⟨ji,jj,jk⟩:=bS cn;refine DCl (cO 98) bn (Lh N ja ho bn.pers (hG.mono (((((((h5.t Z).trans h1).trans Y).trans h0).trans h4).trans h9).trans hx)) ([32,77,86,68]:AcP) cl _ jj) ?_;rintro _ jl l6 jm bo rfl;refine Dv [12]<|D1 13<|DAl 34 zA jm bo (fun jo l7 jp=>?_);refine D1 14<|EF #[vi h6.1,vi h7.1,vi ji,vi h8,sv cm,vi G.1,vi G.2.1,vi G.2.2,vi J.1,vi J.2.1,vi J.2.2] jp bo (fun l8 jq=>?_);obtain rfl:=Aa jk;exact AcG (by kernel_rfl) ⟨jl,jo,jq.dr1.dr1,bo,fI⟩
       ·refine DAl 34 zA bn (Acu _) (fun jr js co=>?_);refine D1 5 ?_;obtain⟨jt,ju,jv⟩:=bS cn;refine DCl (cO 98) co (Lh N js ho co.pers (hG.mono (((((((h5.t Z).trans h1).trans Y).trans h0).trans h4).trans h9).trans hx)) ([32,77,86,68]:AcP) cl _ ju) ?_;rintro _ jw l9 jx cp rfl;refine Dv [12]<|D1 14<|EF #[vi h6.1,vi h7.1,vi jt,vi h8,sv cm,vi G.1,vi G.2.1,vi G.2.2,vi J.1,vi J.2.1,vi J.2.2] jx cp (fun la jy=>?_);obtain rfl:=Aa jv;exact AcG (by kernel_rfl) ⟨jw,jr,jy.dr1.dr1,cp,fI⟩
      ·rintro f jz ⟨b5,hy,b6,k0,⟨_,rfl⟩⟩;refine Ab<|Sq<|sR (rG 8)<|Ld b6.at2<|Ld b6.at0 ?_;obtain⟨bp,k1,k2⟩:=bS j9;refine Cl' (cO 27) b6 (Ks N jz b5 b6.pers (hG.mono ((((((((h5.t Z).trans h1).trans Y).trans h0).trans h4).trans h9).trans hx).trans k0)) (lY I) ({Num:=h6.1,Khz:=h7.1,Mode:=h3.1,Minute:=h8,Call:=h3.2,Sent:=({Report:=G.1,Serial:=G.2.1,Zone:=G.2.2}:Af),Got:=({Report:=J.1,Serial:=J.2.1,Zone:=J.2.2}:Af)}:Line) _ k1) ?_;rintro _ bq lb cq lf rfl;refine Vs 5<|nR (rG 7)<|Acz (kP w0 F0 bq [sb hy #[vi h6.1,vi h7.1,vi h3.1,vi h8,sv h3.2,vi G.1,vi G.2.1,vi G.2.2,vi J.1,vi J.2.1,vi J.2.2] 34,sb O zA 34] [] [(4,(pt O 0)),(18,(pt hy 0)),(109,(.bool ((bp.2 !=0)||(bp.1 !=x1))))]) ?_ ?_
       ·refine Vs 3<|Acy (bp.2 !=0) (fun hn=>?_) (fun hn=>?_)
        ·refine Ss hn 3<|Pk1 hn ?_;exact Aco ⟨rfl,bq,cq.dr2,Acu _,fJ ⟨rfl,rfl,congrArg Value.bool (Ej hn rfl),trivial⟩⟩
        ·refine Vgs hn 3<|Pk0 hn ?_;exact Aco ⟨rfl,bq,cq.dr2,Acu _,fJ ⟨rfl,rfl,congrArg Value.bool (Ch hn rfl),trivial⟩⟩
       ·rintro f lg ⟨hz,br,lh,⟨_,rfl⟩⟩;refine Ab<|Cd k2 (fun k3 k4=>?_) (fun k3 k5=>?_)
        ·refine sR [0,1,2]<|Vs 1<|St1 zA br (fun li cr=>?_);refine Vs 1<|Nt<|Rt<|Ad ?_;obtain rfl:=Aa k4;exact⟨rfl,.tuple #[.agg zA,vi 20],aK [.cell 4 34,.tmp 5] [.agg zA,vi 20] ⟨O,0,rfl,aL 34 11 cr.at1,⟨rfl,trivial⟩⟩,.tuple #[.agg zA,vi 20],hz,rfl,cr.clear,rfl⟩
        ·refine Sc<|Ab<|sR [0,1,2]<|Ld br.at0<|St1 #[vi h6.1,vi h7.1,vi h3.1,vi h8,sv h3.2,vi G.1,vi G.2.1,vi G.2.2,vi J.1,vi J.2.1,vi J.2.2] br (fun lj ct=>?_);refine Vs 1<|Nt<|Rt ?_;obtain rfl:=Aa k5;exact⟨rfl,.tuple #[.agg #[vi h6.1,vi h7.1,vi h3.1,vi h8,sv h3.2,vi G.1,vi G.2.1,vi G.2.2,vi J.1,vi J.2.1,vi J.2.2],vi 0],aK [.cell 4 34,.tmp 5] [.agg #[vi h6.1,vi h7.1,vi h3.1,vi h8,sv h3.2,vi G.1,vi G.2.1,vi G.2.2,vi J.1,vi J.2.1,vi J.2.2],vi 0] ⟨O,0,rfl,aL 34 11 ct.at1,⟨rfl,trivial⟩⟩,.tuple #[.agg #[vi h6.1,vi h7.1,vi h3.1,vi h8,sv h3.2,vi G.1,vi G.2.1,vi G.2.2,vi J.1,vi J.2.1,vi J.2.2],vi 0],hz,rfl,ct.clear,rfl⟩
def GV(N:Nat)(G:Au)(J:AcP):Option (Au×Bool):=
 ((strings_CutPrefix N J ([67,65,76,76,32]:AcP)).bind fun I=>((bif I.2 then((HA N I.1).bind fun O=>some O)else some false).bind fun Y=>some (({o_:=(lY G.o_),l_:=({Call:=I.1,Category:=G.l_.Category,Power:=G.l_.Power,Claimed:=G.l_.Claimed,Jumps:=G.l_.Jumps,Lines:=G.l_.Lines}:Log),done_:=G.done_,ended_:=G.ended_}:Au),Y)))
theorem Pk(N:Nat){wb w0:World}{Fb F0:Mem}{Lf:Own}(hG:BH F0)(hc:Nat)(G:Au)(J:AcQ)(O Y Z h0 h1 h2 h3 h4 h5 h6 h7 h8 h9:Nat)(ha:AcQ)(hb:Nat)(hg:oO)(hy:LC G.l_.Jumps.length O)(hz:SlA AO F0 J G.l_.Jumps)(be:F0 Y=some (oc #[sv ([67,65,84,69,71,79,82,89]:AcP)] 9))(bf:F0 Z=some (oc #[vi 1] 3))(bg:F0 h0=some (oc #[vi 9] 3))(bh:F0 h1=some (oc #[fV 156 #[]] 195))(bi:F0 h2=some (oc #[sv ([80,79,87,69,82]:AcP)] 9))(bj:F0 h3=some (oc #[vi 1] 3))(bk:F0 h4=some (oc #[vi 9999] 3))(bl:F0 h5=some (oc #[fV 157 #[]] 195))(bm:F0 h6=some (oc #[sv ([67,76,65,73,77,69,68]:AcP)] 9))(bn:F0 h7=some (oc #[vi 0] 3))(bo:F0 h8=some (oc #[vi 1000000] 3))(bp:F0 h9=some (oc #[fV 158 #[]] 195))(b0:Aq AR 34 F0 ha hb G.l_.Lines hg)(x1:AcP)(hp:HS wb Fb w0 F0 ((sb hc (kU G.o_ G.l_ J O ha hb Y Z h0 h1 h2 h3 h4 h5 h6 h7 h8 h9 (vi G.done_) (.bool G.ended_)) 130)::hg::Lf))(r:(Au×Bool))(h:GV N G x1=some r):
  cP 153 (lA [pt hc 3,sv x1]) w0 (Hm wb Fb F0 fun F' v L'=>∃(hq:AcQ)(hr:Nat)(ht:AcQ)(hu:Nat)(hw:oO),v=(.bool r.2)/\L'=(sb hc (kU r.1.o_ r.1.l_ hq hr ht hu Y Z h0 h1 h2 h3 h4 h5 h6 h7 h8 h9 (vi r.1.done_) (.bool r.1.ended_)) 130)::hw::Lf/\LC r.1.l_.Jumps.length hr/\SlA AO F' hq r.1.l_.Jumps/\Aq AR 34 F' ht hu r.1.l_.Lines hw):=by
 refine Go 21 Tryz.func153<|sR [0]<|Vs 1<|nR (rG 7)<|Vs 1 ?_;obtain⟨hm,b1,b2⟩:=bS h;refine Cl' (cO 189) hp (Bz N w0 F0 hp.pers x1 ([67,65,76,76,32]:AcP) _ b1) ?_;rintro _ F1 bq b3 hh rfl;refine Vs 5<|nR (rG 5)<|Vs 4<|St0 (kT (.bool G.o_.Report) (.bool G.o_.Serial) (.bool G.o_.Zone) (sv hm.1) (vi G.l_.Category) (vi G.l_.Power) (vi G.l_.Claimed) (sL J G.l_.Jumps O) (sL ha G.l_.Lines hb) Y Z h0 h1 h2 h3 h4 h5 h6 h7 h8 h9 (vi G.done_) (.bool G.ended_)) b3 (fun b4 hn=>?_);refine nR (rG 6) ?_;obtain⟨hx,b5,b6⟩:=bS b2;refine Acz (kP wb Fb F1 ((sb hc (kT (.bool G.o_.Report) (.bool G.o_.Serial) (.bool G.o_.Zone) (sv hm.1) (vi G.l_.Category) (vi G.l_.Power) (vi G.l_.Claimed) (sL J G.l_.Jumps O) (sL ha G.l_.Lines hb) Y Z h0 h1 h2 h3 h4 h5 h6 h7 h8 h9 (vi G.done_) (.bool G.ended_)) 130)::hg::Lf) [] [(4,(.bool hx))]) ?_ ?_
 ·refine Vs 2<|Sp b5 (fun I b7=>?_) (fun I b8=>?_)
  ·refine Vgs I 1 ?_;obtain⟨br,b9,ba⟩:=bS b7;refine Cg I Hj hn (Ib N b4 F1 hn.pers (hG.mono hh) hm.1 _ b9) ?_;rintro _ F3 bs bb bc rfl;refine Pk1 I<|Vs 1 ?_;obtain rfl:=Aa ba;exact Aco ⟨rfl,F3,bb,bc,fI⟩
  ·refine Ss I 2<|Pk0 I<|Vs 1 ?_;obtain rfl:=Aa b8;exact Aco ⟨rfl,F1,hn,Acu _,fI⟩
 ·rintro f bt ⟨F2,bd,ho,⟨_,rfl⟩⟩;refine Ab<|Rt ?_;obtain rfl:=Aa b6;exact ReB [.bool hx] bd (hh.t ho) ⟨J,O,ha,hb,hg,rfl,rfl,hy,Acw hz (hh.t ho),b0.mono (hh.t ho)⟩
def BL(N:Nat)(O:Au)(x1:AcP)(h0:(List AcP))(I:List AcP):(List Int×Int)->Option (A2 (Au×Bool) (List Int×Int)):=fun G=>
 (bif(decide (G.2 < (I.length:Int)))then((idx I G.2).bind fun Y=>((AU N Y).bind fun J=>bif(!J.2)then some (.ret (O,false))else((CD G.1 [J.1]).bind fun Z=>some (.next (Z,(W64 (G.2 + 1)))))))else some (.done (G.1,G.2)))
def Gc(N:Nat)(G:Au)(J:AcP):Option (Au×Bool):=
 ((strings_Split N J ([32]:AcP)).bind fun I=>((sub I 1 (I.length:Int)).bind fun Y=>((AF (BL N G J I Y) N (([]:List Int),0)).bind fun o=>o.k (fun r=>some r) (fun O=>(((idx I 0).bind fun Z=>bif(Z==([74,85,77,80,83]:AcP))then((DL N O.1).bind fun h0=>some h0)else some false).bind fun h1=>some (({o_:=(lY G.o_),l_:=({Call:=G.l_.Call,Category:=G.l_.Category,Power:=G.l_.Power,Claimed:=G.l_.Claimed,Jumps:=O.1,Lines:=G.l_.Lines}:Log),done_:=G.done_,ended_:=G.ended_}:Au),h1))))))
theorem OH(N:Nat){wb w0:World}{Fb F0:Mem}{Lf:Own}(hG:BH F0)(I:Nat)(G:Au)(hp:AcQ)(hq Z h0 h1 h2 h3 h4 h5 h6 h7 h8 h9 ha:Nat)(J:AcQ)(O:Nat)(hb:oO)(br:LC G.l_.Jumps.length hq)(bs:SlA AO F0 hp G.l_.Jumps)(dj:F0 Z=some (oc #[sv ([67,65,84,69,71,79,82,89]:AcP)] 9))(dk:F0 h0=some (oc #[vi 1] 3))(dl:F0 h1=some (oc #[vi 9] 3))(dm:F0 h2=some (oc #[fV 156 #[]] 195))(dn:F0 h3=some (oc #[sv ([80,79,87,69,82]:AcP)] 9))(dp:F0 h4=some (oc #[vi 1] 3))(dq:F0 h5=some (oc #[vi 9999] 3))(dr:F0 h6=some (oc #[fV 157 #[]] 195))(ds:F0 h7=some (oc #[sv ([67,76,65,73,77,69,68]:AcP)] 9))(dt:F0 h8=some (oc #[vi 0] 3))(du:F0 h9=some (oc #[vi 1000000] 3))(dv:F0 ha=some (oc #[fV 158 #[]] 195))(b9:Aq AR 34 F0 J O G.l_.Lines hb)(x1:AcP)(ba:HS wb Fb w0 F0 ((sb I (kU G.o_ G.l_ hp hq J O Z h0 h1 h2 h3 h4 h5 h6 h7 h8 h9 ha (vi G.done_) (.bool G.ended_)) 130)::hb::Lf))(r:(Au×Bool))(h:Gc N G x1=some r):
  cP 159 (lA [pt I 3,sv x1]) w0 (Hm wb Fb F0 fun F' v L'=>∃(bb:AcQ)(bc:Nat)(bd:AcQ)(be:Nat)(bf:oO),v=(.bool r.2)/\L'=(sb I (kU r.1.o_ r.1.l_ bb bc bd be Z h0 h1 h2 h3 h4 h5 h6 h7 h8 h9 ha (vi r.1.done_) (.bool r.1.ended_)) 130)::bf::Lf/\LC r.1.l_.Jumps.length bc/\SlA AO F' bb r.1.l_.Jumps/\Aq AR 34 F' bd be r.1.l_.Lines bf):=by
 refine Go 44 Tryz.func159<|sR [0]<|Vs 1<|nR [0,1,2]<|Vs 1 ?_;obtain⟨hr,bt,bu⟩:=bS h;refine Cl' (cO 93) ba (EB N w0 F0 ba.pers hG x1 ([32]:AcP) _ bt) ?_;rintro _ F1 dw bv hn ⟨b1,b2,rfl,bw,bg⟩;refine Vs 1<|nR [0]<|Vs 1<|Nss<|sR (rG 4)<|Vs 1 ?_;obtain⟨hu,bx,bz⟩:=bS bu;obtain⟨c0,c1,dx,c3,c4⟩:=GT (P:=Tryz.prog) (T:=AJ) (lo:=some (.const (vi 1))) (hi:=none) (mx:=none) (t:=55) (E:=9) (by_:=16) (c:=b2) (a:=b1) (l:=hr) (r:=hu) (il:=1) (ih:=(hr.length:Int)) (im:=0) (by kernel_rfl) (by kernel_rfl) bw bg (fun h=>by first | rfl | cases h) bx;refine V 14 55 (c4 (x:=.tmp 13) rfl rfl rfl trivial)<|Vs 2<|Nt ?_;have c5:=bv.dummy (oc #[] 0);obtain⟨bh,c6,bi⟩:=bS bz;refine AcA (fun f w=>∃(hc:(List Int×Int))(F3:_)(hg:AcQ)(hh:_)(b3:_),bh=.done hc/\HS wb Fb w F3 (b3::(sb I (kU G.o_ G.l_ hp hq J O Z h0 h1 h2 h3 h4 h5 h6 h7 h8 h9 ha (vi G.done_) (.bool G.ended_)) 130)::hb::Lf)/\Acs F1 F3/\FI f [] [(0,(pt I 3)),(5,(sL b1 hr b2)),(6,(sL hg hc.1 hh))]/\Aq AO 3 F3 hg hh hc.1 b3) ?_ ?_
 ·refine Bk<|Acr (by kernel_rfl) (fun m f w=>∃(Y:(List Int×Int))(F2:Mem)(hw:AcQ)(hx:Nat)(hy:oO),AF (BL N G x1 hr hu) m Y=some bh/\HS wb Fb w F2 (hy::(sb I (kU G.o_ G.l_ hp hq J O Z h0 h1 h2 h3 h4 h5 h6 h7 h8 h9 ha (vi G.done_) (.bool G.ended_)) 130)::hb::Lf)/\Acs F1 F2/\FI f [] [(0,(pt I 3)),(5,(sL b1 hr b2)),(6,(sL hw Y.1 hx)),(14,(sL c0 hu c1)),(15,(vi (hu.length:Int))),(16,(vi Y.2))]/\Aq AO 3 F2 hw hx Y.1 hy) N ⟨(([]:List Int),0),F1,none,0,(none,.cells #[] 0 (0,0)),c6,c5,Acu _,fI,AcI AO 3 F1 _⟩ ?_;rintro dy f c7 ⟨Y,F2,hw,hx,hy,c8,hz,hm,⟨_,rfl⟩,bj⟩;obtain⟨c9,dz,rfl,ca,b4⟩:=AB c8;refine sR [0]<|Vs 1<|Nss<|Cd ca (fun cb cc=>?_) (fun cb cd=>?_)
  ·refine Sc<|Ab<|Sq<|Bk<|sR [0,1,2] ?_;obtain⟨ce,cf,cg⟩:=bS cc;obtain⟨ch,hx71'⟩:=Ag cf;obtain⟨e0,e1,e2,e3,e4,rfl,hF80,hE81⟩:=AcB (Acw c3 hm) hx71';have ci:=hE81 _ _ hx71';refine Ix ch<|Lx 0 (hz.pers _ _ hF80) ci<|Vs 1<|nR (rG 7)<|Vs 1 ?_;obtain⟨b5,cj,cl⟩:=bS cg;refine Cl' (cO 95) hz (B4 N c7 F2 hz.pers (hG.mono (hn.t hm)) ce _ cj) ?_;rintro _ F4 e6 bk ht rfl;refine Vs 5<|Nss<|sR [0,1]<|Vs 2<|Nt<|Cd cl (fun cm cn=>?_) (fun cm co=>?_)
   ·refine sR [0]<|Vs 1<|Nt<|Rt<|Ad<|Ar<|Ad<|Ad<|Ar ?_;have hret:=Bf cn b4;subst hret;refine .inr<|Ad ?_;obtain rfl:=Aa bi;exact ReB [bF] bk.dr0 ((hn.t hm).trans ht) ⟨hp,hq,J,O,hb,rfl,rfl,br,Acw bs ((hn.t hm).trans ht),b9.mono ((hn.t hm).trans ht)⟩
   ·refine Sc<|Ab<|Rg (rG 5)<|Vs 2<|Bs 3 [vi b5.1] bk (fun bl e7 bm=>?_);have cp:Aq AO 3 F4 (sA bl) 1 [b5.1] (some bl,.cells (lA [vi b5.1]) 3 (0,0)):=AcJ ⟨rfl,rfl⟩ (by simp);obtain⟨cq,cr,ct⟩:=bS co;refine Ap1 Aab bm (bj.mono ht) (bm.rd0 cp) cr (fun cu cv cw e8 cx cy=>?_);refine Vs 1<|Aco<|Am<|Ab<|Rg [0,1]<|Vs 2<|Aco ?_;have cz:=Ay ct b4;exact⟨c9,xF _,(cq,(W64 (Y.2 + 1))),F4,cu,cv,cw,cz,cx.dr0,hm.t ht,fI,cy⟩
  ·refine Ex<|Ak<|Ak<|Av rfl ?_;have d0:=AA cd b4;exact .inl ⟨rfl,(Y.1,Y.2),F2,hw,hx,hy,d0,hz,hm,fI,bj⟩
 ·rintro f e9 ⟨hc,F3,hg,hh,b3,rfl,d1,b6,⟨_,rfl⟩,bn⟩;have d2:=AW bi;refine Ab<|sR (rG 5)<|Vs 4 ?_;have bo:=AcH bn;obtain⟨F5,d3,b7,bp⟩:=d1.fr0 bn;refine St0 (kT (.bool G.o_.Report) (.bool G.o_.Serial) (.bool G.o_.Zone) (sv G.l_.Call) (vi G.l_.Category) (vi G.l_.Power) (vi G.l_.Claimed) (sL hg hc.1 hh) (sL J G.l_.Lines O) Z h0 h1 h2 h3 h4 h5 h6 h7 h8 h9 ha (vi G.done_) (.bool G.ended_)) d3 (fun d4 b0=>?_);refine nR (rG 9) ?_;obtain⟨bq,d6,d7⟩:=bS d2;refine Acz (kP wb Fb F5 ((sb I (kT (.bool G.o_.Report) (.bool G.o_.Serial) (.bool G.o_.Zone) (sv G.l_.Call) (vi G.l_.Category) (vi G.l_.Power) (vi G.l_.Claimed) (sL hg hc.1 hh) (sL J G.l_.Lines O) Z h0 h1 h2 h3 h4 h5 h6 h7 h8 h9 ha (vi G.done_) (.bool G.ended_)) 130)::hb::Lf) [] [(4,(.bool bq))]) ?_ ?_
  ·refine Vs 1 ?_;obtain⟨ea,d8,d9⟩:=bS d6;obtain⟨da,hx127'⟩:=Ag d8;obtain⟨eb,ec,ed,ee,ef,rfl,hF136,hE137⟩:=AcB (Acw bg (b6.t b7)) hx127';have db:=hE137 _ _ hx127';refine Ix da<|Lx 0 (b0.pers _ _ hF136) db<|Vs 2<|Sp d9 (fun ho dc=>?_) (fun ho dd=>?_)
   ·refine Vgs ho 1 ?_;obtain⟨eg,de,df⟩:=bS dc;refine Cg ho (cO 80) b0 (KV N d4 F5 b0.pers hc.1 hg hh bo bp _ de) ?_;rintro _ F7 eh dg dh rfl;refine Pk1 ho<|Vs 1 ?_;obtain rfl:=Aa df;exact Aco ⟨rfl,F7,dg,dh,fI⟩
   ·refine Ss ho 2<|Pk0 ho<|Vs 1 ?_;obtain rfl:=Aa dd;exact Aco ⟨rfl,F5,b0,Acu _,fI⟩
  ·rintro f ei ⟨F6,di,b8,⟨_,rfl⟩⟩;refine Ab<|Rt ?_;obtain rfl:=Aa d7;exact ReB [.bool bq] di (((hn.t b6).trans b7).trans b8) ⟨hg,hh,J,O,hb,rfl,rfl,bo,Acw bp b8,b9.mono (((hn.t b6).trans b7).trans b8)⟩
def ES(N:Nat)(G:Au)(O z0:AcP)(Y Z:Int):Option (Au×Bool):=
 ((A5 z0 ([32]:AcP)).bind fun h0=>((strings_CutPrefix N O h0).bind fun J=>((AU N J.1).bind fun I=>((bif(!J.2)then some true else(bif(!I.2)then some true else((Bb N I.1 Y Z).bind fun h1=>some (!h1)))).bind fun h2=>(bif h2 then some (G,false)else some (({o_:=(lY G.o_),l_:=({Call:=G.l_.Call,Category:=I.1,Power:=G.l_.Power,Claimed:=G.l_.Claimed,Jumps:=G.l_.Jumps,Lines:=G.l_.Lines}:Log),done_:=G.done_,ended_:=G.ended_}:Au),true))))))
theorem MP(N:Nat){wb w0:World}{Fb F0:Mem}{Lf:Own}(hG:BH F0)(Z:Nat)(G:Au)(h0:AcQ)(h1 h5 h6 h7 h8 h9 ha hb hc hg hh hm hn:Nat)(h2:AcQ)(h3:Nat)(ho:oO)(hx:LC G.l_.Jumps.length h1)(hy:SlA AO F0 h0 G.l_.Jumps)(c6:F0 h5=some (oc #[sv ([67,65,84,69,71,79,82,89]:AcP)] 9))(c7:F0 h6=some (oc #[vi 1] 3))(c8:F0 h7=some (oc #[vi 9] 3))(c9:F0 h8=some (oc #[fV 156 #[]] 195))(ca:F0 h9=some (oc #[sv ([80,79,87,69,82]:AcP)] 9))(cb:F0 ha=some (oc #[vi 1] 3))(cc:F0 hb=some (oc #[vi 9999] 3))(cd:F0 hc=some (oc #[fV 157 #[]] 195))(ce:F0 hg=some (oc #[sv ([67,76,65,73,77,69,68]:AcP)] 9))(cf:F0 hh=some (oc #[vi 0] 3))(cg:F0 hm=some (oc #[vi 1000000] 3))(ch:F0 hn=some (oc #[fV 158 #[]] 195))(hz:Aq AR 34 F0 h2 h3 G.l_.Lines ho)(x1:AcP)(b0:Nat)(z0:AcP)(ba:F0 b0=some (oc #[sv z0] 9))(b1:Nat)(z1:Int)(bb:F0 b1=some (oc #[vi z1] 3))(b2:Nat)(z2:Int)(bc:F0 b2=some (oc #[vi z2] 3))(hr:Nat)(bd:F0 hr=some (oc #[fV 156 #[]] 195))(ht:HS wb Fb w0 F0 ((sb Z (kU G.o_ G.l_ h0 h1 h2 h3 h5 h6 h7 h8 h9 ha hb hc hg hh hm hn (vi G.done_) (.bool G.ended_)) 130)::ho::Lf))(r:(Au×Bool))(h:ES N G x1 z0 z1 z2=some r):
  cP 190 (lA [pt Z 3,sv x1,pt b0 0,pt b1 0,pt b2 0,pt hr 0]) w0 (Hm wb Fb F0 fun F' v L'=>∃(b3:AcQ)(b4:Nat)(b5:AcQ)(b6:Nat)(b7:oO),v=(.bool r.2)/\L'=(sb Z (kU r.1.o_ r.1.l_ b3 b4 b5 b6 h5 h6 h7 h8 h9 ha hb hc hg hh hm hn (vi r.1.done_) (.bool r.1.ended_)) 130)::b7::Lf/\LC r.1.l_.Jumps.length b4/\SlA AO F' b3 r.1.l_.Jumps/\Aq AR 34 F' b5 b6 r.1.l_.Lines b7):=by
 refine Go 43 Tryz.func190<|sR [0]<|Vs 1<|nR (rG 9)<|Vs 1<|Ld (ht.pers _ _ ba) ?_;obtain⟨b8,be,bf⟩:=bS h;refine V 16 9 (aZ (.tmp 15) (.const (sv ([32]:AcP))) be) ?_;obtain⟨bg,bh,bi⟩:=bS bf;refine Cl' (cO 189) ht (Bz N w0 F0 ht.pers x1 b8 _ bh) ?_;rintro _ F1 bj b9 I rfl;refine Vs 5<|nR (rG 7)<|Vs 1 ?_;obtain⟨hu,bk,bl⟩:=bS bi;refine Cl' (cO 95) b9 (B4 N bj F1 b9.pers (hG.mono I) bg.1 _ bk) ?_;rintro _ F2 bm h4 J rfl;refine Vs 5<|Nss<|sR (rG 13) ?_;obtain⟨bn,bo,bp⟩:=bS bl;refine Acz (kP wb Fb F2 ((sb Z (kU G.o_ G.l_ h0 h1 h2 h3 h5 h6 h7 h8 h9 ha hb hc hg hh hm hn (vi G.done_) (.bool G.ended_)) 130)::ho::Lf) [] [(0,(pt Z 3)),(5,(pt hr 0)),(11,(vi hu.1)),(37,(.bool bn))]) ?_ ?_
 ·refine Vs 3<|Sp bo (fun hp bq=>?_) (fun hp br=>?_)
  ·refine Ss hp 2<|Pk1 hp<|Vs 1<|Ss rT 5<|Pk1 rT ?_;obtain rfl:=Aa bq;exact Aco ⟨rfl,F2,h4,Acu _,fI⟩
  ·refine Vgs hp 2<|Pk0 hp<|Vs 1<|Sp br (fun O bs=>?_) (fun O bt=>?_)
   ·refine Ss O 5<|Pk1 O ?_;obtain rfl:=Aa bs;exact Aco ⟨rfl,F2,h4,Acu _,fI⟩
   ·refine Vgs O 1<|Lg O (h4.pers _ _ ((I.t J) _ _ bb))<|Lg O (h4.pers _ _ ((I.t J) _ _ bc)) ?_;obtain⟨ci,bu,bv⟩:=bS bt;refine Cg O (cO 73) h4 (A0 N bm F2 h4.pers hu.1 z1 z2 _ bu) ?_;rintro _ F4 cj bw bx rfl;refine Vgs O 1<|Pk0 O ?_;obtain rfl:=Aa bv;exact Aco ⟨rfl,F4,bw,bx,fI⟩
 ·rintro f bz ⟨F3,hq,Y,⟨_,rfl⟩⟩;refine Ab<|Cd bp (fun c0 c1=>?_) (fun c0 c3=>?_)
  ·refine sR [0]<|Vs 1<|Nt<|Rt<|Ad ?_;obtain rfl:=Aa c1;exact ReB [bF] hq ((I.t J).trans Y) ⟨h0,h1,h2,h3,ho,rfl,rfl,hx,Acw hy ((I.t J).trans Y),hz.mono ((I.t J).trans Y)⟩
  ·refine Sc<|Ab<|sR (rG 6)<|Ld (hq.pers _ _ (((I.t J).trans Y) _ _ bd))<|Vs 1<|Cl' (cO 156) hq (Sg bz F3 hq.pers Z 3) ?_;rintro _ F5 cl c4 hw rfl;refine Vs 2<|St0 (kT (.bool G.o_.Report) (.bool G.o_.Serial) (.bool G.o_.Zone) (sv G.l_.Call) (vi hu.1) (vi G.l_.Power) (vi G.l_.Claimed) (sL h0 G.l_.Jumps h1) (sL h2 G.l_.Lines h3) h5 h6 h7 h8 h9 ha hb hc hg hh hm hn (vi G.done_) (.bool G.ended_)) c4 (fun cm c5=>?_);refine nR [0]<|Vs 1<|Nt<|Rt ?_;obtain rfl:=Aa c3;exact ReB [bT] c5 (((I.t J).trans Y).trans hw) ⟨h0,h1,h2,h3,ho,rfl,rfl,hx,Acw hy (((I.t J).trans Y).trans hw),hz.mono (((I.t J).trans Y).trans hw)⟩
def EQ(N:Nat)(G:Au)(O z0:AcP)(Y Z:Int):Option (Au×Bool):=
 ((A5 z0 ([32]:AcP)).bind fun h0=>((strings_CutPrefix N O h0).bind fun J=>((AU N J.1).bind fun I=>((bif(!J.2)then some true else(bif(!I.2)then some true else((Bb N I.1 Y Z).bind fun h1=>some (!h1)))).bind fun h2=>(bif h2 then some (G,false)else some (({o_:=(lY G.o_),l_:=({Call:=G.l_.Call,Category:=G.l_.Category,Power:=I.1,Claimed:=G.l_.Claimed,Jumps:=G.l_.Jumps,Lines:=G.l_.Lines}:Log),done_:=G.done_,ended_:=G.ended_}:Au),true))))))
theorem MN(N:Nat){wb w0:World}{Fb F0:Mem}{Lf:Own}(hG:BH F0)(Z:Nat)(G:Au)(h0:AcQ)(h1 h5 h6 h7 h8 h9 ha hb hc hg hh hm hn:Nat)(h2:AcQ)(h3:Nat)(ho:oO)(hx:LC G.l_.Jumps.length h1)(hy:SlA AO F0 h0 G.l_.Jumps)(c6:F0 h5=some (oc #[sv ([67,65,84,69,71,79,82,89]:AcP)] 9))(c7:F0 h6=some (oc #[vi 1] 3))(c8:F0 h7=some (oc #[vi 9] 3))(c9:F0 h8=some (oc #[fV 156 #[]] 195))(ca:F0 h9=some (oc #[sv ([80,79,87,69,82]:AcP)] 9))(cb:F0 ha=some (oc #[vi 1] 3))(cc:F0 hb=some (oc #[vi 9999] 3))(cd:F0 hc=some (oc #[fV 157 #[]] 195))(ce:F0 hg=some (oc #[sv ([67,76,65,73,77,69,68]:AcP)] 9))(cf:F0 hh=some (oc #[vi 0] 3))(cg:F0 hm=some (oc #[vi 1000000] 3))(ch:F0 hn=some (oc #[fV 158 #[]] 195))(hz:Aq AR 34 F0 h2 h3 G.l_.Lines ho)(x1:AcP)(b0:Nat)(z0:AcP)(ba:F0 b0=some (oc #[sv z0] 9))(b1:Nat)(z1:Int)(bb:F0 b1=some (oc #[vi z1] 3))(b2:Nat)(z2:Int)(bc:F0 b2=some (oc #[vi z2] 3))(hr:Nat)(bd:F0 hr=some (oc #[fV 157 #[]] 195))(ht:HS wb Fb w0 F0 ((sb Z (kU G.o_ G.l_ h0 h1 h2 h3 h5 h6 h7 h8 h9 ha hb hc hg hh hm hn (vi G.done_) (.bool G.ended_)) 130)::ho::Lf))(r:(Au×Bool))(h:EQ N G x1 z0 z1 z2=some r):
  cP 190 (lA [pt Z 3,sv x1,pt b0 0,pt b1 0,pt b2 0,pt hr 0]) w0 (Hm wb Fb F0 fun F' v L'=>∃(b3:AcQ)(b4:Nat)(b5:AcQ)(b6:Nat)(b7:oO),v=(.bool r.2)/\L'=(sb Z (kU r.1.o_ r.1.l_ b3 b4 b5 b6 h5 h6 h7 h8 h9 ha hb hc hg hh hm hn (vi r.1.done_) (.bool r.1.ended_)) 130)::b7::Lf/\LC r.1.l_.Jumps.length b4/\SlA AO F' b3 r.1.l_.Jumps/\Aq AR 34 F' b5 b6 r.1.l_.Lines b7):=by
 refine Go 43 Tryz.func190<|sR [0]<|Vs 1<|nR (rG 9)<|Vs 1<|Ld (ht.pers _ _ ba) ?_;obtain⟨b8,be,bf⟩:=bS h;refine V 16 9 (aZ (.tmp 15) (.const (sv ([32]:AcP))) be) ?_;obtain⟨bg,bh,bi⟩:=bS bf;refine Cl' (cO 189) ht (Bz N w0 F0 ht.pers x1 b8 _ bh) ?_;rintro _ F1 bj b9 I rfl;refine Vs 5<|nR (rG 7)<|Vs 1 ?_;obtain⟨hu,bk,bl⟩:=bS bi;refine Cl' (cO 95) b9 (B4 N bj F1 b9.pers (hG.mono I) bg.1 _ bk) ?_;rintro _ F2 bm h4 J rfl;refine Vs 5<|Nss<|sR (rG 13) ?_;obtain⟨bn,bo,bp⟩:=bS bl;refine Acz (kP wb Fb F2 ((sb Z (kU G.o_ G.l_ h0 h1 h2 h3 h5 h6 h7 h8 h9 ha hb hc hg hh hm hn (vi G.done_) (.bool G.ended_)) 130)::ho::Lf) [] [(0,(pt Z 3)),(5,(pt hr 0)),(11,(vi hu.1)),(37,(.bool bn))]) ?_ ?_
 ·refine Vs 3<|Sp bo (fun hp bq=>?_) (fun hp br=>?_)
  ·refine Ss hp 2<|Pk1 hp<|Vs 1<|Ss rT 5<|Pk1 rT ?_;obtain rfl:=Aa bq;exact Aco ⟨rfl,F2,h4,Acu _,fI⟩
  ·refine Vgs hp 2<|Pk0 hp<|Vs 1<|Sp br (fun O bs=>?_) (fun O bt=>?_)
   ·refine Ss O 5<|Pk1 O ?_;obtain rfl:=Aa bs;exact Aco ⟨rfl,F2,h4,Acu _,fI⟩
   ·refine Vgs O 1<|Lg O (h4.pers _ _ ((I.t J) _ _ bb))<|Lg O (h4.pers _ _ ((I.t J) _ _ bc)) ?_;obtain⟨ci,bu,bv⟩:=bS bt;refine Cg O (cO 73) h4 (A0 N bm F2 h4.pers hu.1 z1 z2 _ bu) ?_;rintro _ F4 cj bw bx rfl;refine Vgs O 1<|Pk0 O ?_;obtain rfl:=Aa bv;exact Aco ⟨rfl,F4,bw,bx,fI⟩
 ·rintro f bz ⟨F3,hq,Y,⟨_,rfl⟩⟩;refine Ab<|Cd bp (fun c0 c1=>?_) (fun c0 c3=>?_)
  ·refine sR [0]<|Vs 1<|Nt<|Rt<|Ad ?_;obtain rfl:=Aa c1;exact ReB [bF] hq ((I.t J).trans Y) ⟨h0,h1,h2,h3,ho,rfl,rfl,hx,Acw hy ((I.t J).trans Y),hz.mono ((I.t J).trans Y)⟩
  ·refine Sc<|Ab<|sR (rG 6)<|Ld (hq.pers _ _ (((I.t J).trans Y) _ _ bd))<|Vs 1<|Cl' (cO 157) hq (Sf bz F3 hq.pers Z 3) ?_;rintro _ F5 cl c4 hw rfl;refine Vs 2<|St0 (kT (.bool G.o_.Report) (.bool G.o_.Serial) (.bool G.o_.Zone) (sv G.l_.Call) (vi G.l_.Category) (vi hu.1) (vi G.l_.Claimed) (sL h0 G.l_.Jumps h1) (sL h2 G.l_.Lines h3) h5 h6 h7 h8 h9 ha hb hc hg hh hm hn (vi G.done_) (.bool G.ended_)) c4 (fun cm c5=>?_);refine nR [0]<|Vs 1<|Nt<|Rt ?_;obtain rfl:=Aa c3;exact ReB [bT] c5 (((I.t J).trans Y).trans hw) ⟨h0,h1,h2,h3,ho,rfl,rfl,hx,Acw hy (((I.t J).trans Y).trans hw),hz.mono (((I.t J).trans Y).trans hw)⟩
def ER(N:Nat)(G:Au)(O z0:AcP)(Y Z:Int):Option (Au×Bool):=
 ((A5 z0 ([32]:AcP)).bind fun h0=>((strings_CutPrefix N O h0).bind fun J=>((AU N J.1).bind fun I=>((bif(!J.2)then some true else(bif(!I.2)then some true else((Bb N I.1 Y Z).bind fun h1=>some (!h1)))).bind fun h2=>(bif h2 then some (G,false)else some (({o_:=(lY G.o_),l_:=({Call:=G.l_.Call,Category:=G.l_.Category,Power:=G.l_.Power,Claimed:=I.1,Jumps:=G.l_.Jumps,Lines:=G.l_.Lines}:Log),done_:=G.done_,ended_:=G.ended_}:Au),true))))))
theorem MO(N:Nat){wb w0:World}{Fb F0:Mem}{Lf:Own}(hG:BH F0)(Z:Nat)(G:Au)(h0:AcQ)(h1 h5 h6 h7 h8 h9 ha hb hc hg hh hm hn:Nat)(h2:AcQ)(h3:Nat)(ho:oO)(hx:LC G.l_.Jumps.length h1)(hy:SlA AO F0 h0 G.l_.Jumps)(c6:F0 h5=some (oc #[sv ([67,65,84,69,71,79,82,89]:AcP)] 9))(c7:F0 h6=some (oc #[vi 1] 3))(c8:F0 h7=some (oc #[vi 9] 3))(c9:F0 h8=some (oc #[fV 156 #[]] 195))(ca:F0 h9=some (oc #[sv ([80,79,87,69,82]:AcP)] 9))(cb:F0 ha=some (oc #[vi 1] 3))(cc:F0 hb=some (oc #[vi 9999] 3))(cd:F0 hc=some (oc #[fV 157 #[]] 195))(ce:F0 hg=some (oc #[sv ([67,76,65,73,77,69,68]:AcP)] 9))(cf:F0 hh=some (oc #[vi 0] 3))(cg:F0 hm=some (oc #[vi 1000000] 3))(ch:F0 hn=some (oc #[fV 158 #[]] 195))(hz:Aq AR 34 F0 h2 h3 G.l_.Lines ho)(x1:AcP)(b0:Nat)(z0:AcP)(ba:F0 b0=some (oc #[sv z0] 9))(b1:Nat)(z1:Int)(bb:F0 b1=some (oc #[vi z1] 3))(b2:Nat)(z2:Int)(bc:F0 b2=some (oc #[vi z2] 3))(hr:Nat)(bd:F0 hr=some (oc #[fV 158 #[]] 195))(ht:HS wb Fb w0 F0 ((sb Z (kU G.o_ G.l_ h0 h1 h2 h3 h5 h6 h7 h8 h9 ha hb hc hg hh hm hn (vi G.done_) (.bool G.ended_)) 130)::ho::Lf))(r:(Au×Bool))(h:ER N G x1 z0 z1 z2=some r):
  cP 190 (lA [pt Z 3,sv x1,pt b0 0,pt b1 0,pt b2 0,pt hr 0]) w0 (Hm wb Fb F0 fun F' v L'=>∃(b3:AcQ)(b4:Nat)(b5:AcQ)(b6:Nat)(b7:oO),v=(.bool r.2)/\L'=(sb Z (kU r.1.o_ r.1.l_ b3 b4 b5 b6 h5 h6 h7 h8 h9 ha hb hc hg hh hm hn (vi r.1.done_) (.bool r.1.ended_)) 130)::b7::Lf/\LC r.1.l_.Jumps.length b4/\SlA AO F' b3 r.1.l_.Jumps/\Aq AR 34 F' b5 b6 r.1.l_.Lines b7):=by
 refine Go 43 Tryz.func190<|sR [0]<|Vs 1<|nR (rG 9)<|Vs 1<|Ld (ht.pers _ _ ba) ?_;obtain⟨b8,be,bf⟩:=bS h;refine V 16 9 (aZ (.tmp 15) (.const (sv ([32]:AcP))) be) ?_;obtain⟨bg,bh,bi⟩:=bS bf;refine Cl' (cO 189) ht (Bz N w0 F0 ht.pers x1 b8 _ bh) ?_;rintro _ F1 bj b9 I rfl;refine Vs 5<|nR (rG 7)<|Vs 1 ?_;obtain⟨hu,bk,bl⟩:=bS bi;refine Cl' (cO 95) b9 (B4 N bj F1 b9.pers (hG.mono I) bg.1 _ bk) ?_;rintro _ F2 bm h4 J rfl;refine Vs 5<|Nss<|sR (rG 13) ?_;obtain⟨bn,bo,bp⟩:=bS bl;refine Acz (kP wb Fb F2 ((sb Z (kU G.o_ G.l_ h0 h1 h2 h3 h5 h6 h7 h8 h9 ha hb hc hg hh hm hn (vi G.done_) (.bool G.ended_)) 130)::ho::Lf) [] [(0,(pt Z 3)),(5,(pt hr 0)),(11,(vi hu.1)),(37,(.bool bn))]) ?_ ?_
 ·refine Vs 3<|Sp bo (fun hp bq=>?_) (fun hp br=>?_)
  ·refine Ss hp 2<|Pk1 hp<|Vs 1<|Ss rT 5<|Pk1 rT ?_;obtain rfl:=Aa bq;exact Aco ⟨rfl,F2,h4,Acu _,fI⟩
  ·refine Vgs hp 2<|Pk0 hp<|Vs 1<|Sp br (fun O bs=>?_) (fun O bt=>?_)
   ·refine Ss O 5<|Pk1 O ?_;obtain rfl:=Aa bs;exact Aco ⟨rfl,F2,h4,Acu _,fI⟩
   ·refine Vgs O 1<|Lg O (h4.pers _ _ ((I.t J) _ _ bb))<|Lg O (h4.pers _ _ ((I.t J) _ _ bc)) ?_;obtain⟨ci,bu,bv⟩:=bS bt;refine Cg O (cO 73) h4 (A0 N bm F2 h4.pers hu.1 z1 z2 _ bu) ?_;rintro _ F4 cj bw bx rfl;refine Vgs O 1<|Pk0 O ?_;obtain rfl:=Aa bv;exact Aco ⟨rfl,F4,bw,bx,fI⟩
 ·rintro f bz ⟨F3,hq,Y,⟨_,rfl⟩⟩;refine Ab<|Cd bp (fun c0 c1=>?_) (fun c0 c3=>?_)
  ·refine sR [0]<|Vs 1<|Nt<|Rt<|Ad ?_;obtain rfl:=Aa c1;exact ReB [bF] hq ((I.t J).trans Y) ⟨h0,h1,h2,h3,ho,rfl,rfl,hx,Acw hy ((I.t J).trans Y),hz.mono ((I.t J).trans Y)⟩
  ·refine Sc<|Ab<|sR (rG 6)<|Ld (hq.pers _ _ (((I.t J).trans Y) _ _ bd))<|Vs 1<|Cl' (cO 158) hq (Se bz F3 hq.pers Z 3) ?_;rintro _ F5 cl c4 hw rfl;refine Vs 2<|St0 (kT (.bool G.o_.Report) (.bool G.o_.Serial) (.bool G.o_.Zone) (sv G.l_.Call) (vi G.l_.Category) (vi G.l_.Power) (vi hu.1) (sL h0 G.l_.Jumps h1) (sL h2 G.l_.Lines h3) h5 h6 h7 h8 h9 ha hb hc hg hh hm hn (vi G.done_) (.bool G.ended_)) c4 (fun cm c5=>?_);refine nR [0]<|Vs 1<|Nt<|Rt ?_;obtain rfl:=Aa c3;exact ReB [bT] c5 (((I.t J).trans Y).trans hw) ⟨h0,h1,h2,h3,ho,rfl,rfl,hx,Acw hy (((I.t J).trans Y).trans hw),hz.mono (((I.t J).trans Y).trans hw)⟩
def A7(N:Nat)(G:Au)(x1:AcP):Option (Au×Bool×Bool):=
 (bif G.ended_ then some (G,false,false)else(bif(decide (G.done_ < 5))then((bif(decide (G.done_=0))then((GV N G x1).bind fun J=>some (J.2,J.1.o_.Report,J.1.o_.Serial,J.1.o_.Zone,J.1.l_.Call,J.1.l_.Category,J.1.l_.Power,J.1.l_.Claimed,J.1.l_.Jumps,J.1.l_.Lines,J.1.done_,J.1.ended_))else(bif(decide (G.done_=1))then((ES N G x1 ([67,65,84,69,71,79,82,89]:AcP) 1 9).bind fun O=>some (O.2,O.1.o_.Report,O.1.o_.Serial,O.1.o_.Zone,O.1.l_.Call,O.1.l_.Category,O.1.l_.Power,O.1.l_.Claimed,O.1.l_.Jumps,O.1.l_.Lines,O.1.done_,O.1.ended_))else(bif(decide (G.done_=2))then((EQ N G x1 ([80,79,87,69,82]:AcP) 1 9999).bind fun Y=>some (Y.2,Y.1.o_.Report,Y.1.o_.Serial,Y.1.o_.Zone,Y.1.l_.Call,Y.1.l_.Category,Y.1.l_.Power,Y.1.l_.Claimed,Y.1.l_.Jumps,Y.1.l_.Lines,Y.1.done_,Y.1.ended_))else(bif(decide (G.done_=3))then((ER N G x1 ([67,76,65,73,77,69,68]:AcP) 0 1000000).bind fun Z=>some (Z.2,Z.1.o_.Report,Z.1.o_.Serial,Z.1.o_.Zone,Z.1.l_.Call,Z.1.l_.Category,Z.1.l_.Power,Z.1.l_.Claimed,Z.1.l_.Jumps,Z.1.l_.Lines,Z.1.done_,Z.1.ended_))else(bif(decide (G.done_=4))then((Gc N G x1).bind fun h0=>some (h0.2,h0.1.o_.Report,h0.1.o_.Serial,h0.1.o_.Zone,h0.1.l_.Call,h0.1.l_.Category,h0.1.l_.Power,h0.1.l_.Claimed,h0.1.l_.Jumps,h0.1.l_.Lines,h0.1.done_,h0.1.ended_))else none))))).bind fun I=>((bif I.1 then some (W64 (I.2.2.2.2.2.2.2.2.2.2.1 + 1))else some I.2.2.2.2.2.2.2.2.2.2.1).bind fun h2=>some (({o_:=({Report:=I.2.1,Serial:=I.2.2.1,Zone:=I.2.2.2.1}:Ac),l_:=({Call:=I.2.2.2.2.1,Category:=I.2.2.2.2.2.1,Power:=I.2.2.2.2.2.2.1,Claimed:=I.2.2.2.2.2.2.2.1,Jumps:=I.2.2.2.2.2.2.2.2.1,Lines:=I.2.2.2.2.2.2.2.2.2.1}:Log),done_:=h2,ended_:=I.2.2.2.2.2.2.2.2.2.2.2}:Au),I.1,false)))else(bif(x1==([69,78,68]:AcP))then some (({o_:=(lY G.o_),l_:=G.l_,done_:=G.done_,ended_:=true}:Au),true,false)else((Fg N (lY G.o_) x1).bind fun h1=>((bif(decide ((G.l_.Lines.length:Int) > 0))then((idx G.l_.Lines (W64 ((G.l_.Lines.length:Int) - 1))).bind fun h3=>bif(decide (h1.1.Num<=h3.Num))then some true else((idx G.l_.Lines (W64 ((G.l_.Lines.length:Int) - 1))).bind fun h4=>bif(decide (h1.1.Minute < h4.Minute))then some true else some (h1.2 !=0)))else some (h1.2 !=0)).bind fun h5=>(bif h5 then some (G,false,false)else(bif((G.l_.Lines.length:Int)==400)then some (G,false,true)else(((CD G.l_.Lines [h1.1]).bind fun h6=>some h6).bind fun h7=>some (({o_:=(lY G.o_),l_:=({Call:=G.l_.Call,Category:=G.l_.Category,Power:=G.l_.Power,Claimed:=G.l_.Claimed,Jumps:=G.l_.Jumps,Lines:=h7}:Log),done_:=G.done_,ended_:=G.ended_}:Au),true,false)))))))))
theorem MM(N:Nat){wb w0:World}{Fb F0:Mem}{Lf:Own}(hG:BH F0)(I:Nat)(G:Au)(ha:AcQ)(hb Y h4 h5 Z h0 h6 h7 h1 h2 h8 h9 h3:Nat)(hh:AcQ)(hg:Nat)(ho:oO)(ht:LC G.l_.Jumps.length hb)(hu:SlA AO F0 ha G.l_.Jumps)(b0:F0 Y=some (oc #[sv ([67,65,84,69,71,79,82,89]:AcP)] 9))(b1:F0 h4=some (oc #[vi 1] 3))(b2:F0 h5=some (oc #[vi 9] 3))(b3:F0 Z=some (oc #[fV 156 #[]] 195))(b4:F0 h0=some (oc #[sv ([80,79,87,69,82]:AcP)] 9))(b5:F0 h6=some (oc #[vi 1] 3))(b6:F0 h7=some (oc #[vi 9999] 3))(b7:F0 h1=some (oc #[fV 157 #[]] 195))(b8:F0 h2=some (oc #[sv ([67,76,65,73,77,69,68]:AcP)] 9))(b9:F0 h8=some (oc #[vi 0] 3))(ba:F0 h9=some (oc #[vi 1000000] 3))(bb:F0 h3=some (oc #[fV 158 #[]] 195))(hp:Aq AR 34 F0 hh hg G.l_.Lines ho)(x1:AcP)(hz:HS wb Fb w0 F0 ((sb I (kU G.o_ G.l_ ha hb hh hg Y h4 h5 Z h0 h6 h7 h1 h2 h8 h9 h3 (vi G.done_) (.bool G.ended_)) 130)::ho::Lf))(r:(Au×Bool×Bool))(h:A7 N G x1=some r):
  cP 106 (lA [pt I 0,sv x1]) w0 (Hm wb Fb F0 fun F' v L'=>∃(bt:AcQ)(bu:Nat)(bv:AcQ)(bw:Nat)(bx:oO),v=(.tuple #[.bool r.2.1,.bool r.2.2])/\L'=(sb I (kU r.1.o_ r.1.l_ bt bu bv bw Y h4 h5 Z h0 h6 h7 h1 h2 h8 h9 h3 (vi r.1.done_) (.bool r.1.ended_)) 130)::bx::Lf/\LC r.1.l_.Jumps.length bu/\SlA AO F' bt r.1.l_.Jumps/\Aq AR 34 F' bv bw r.1.l_.Lines bx):=by
 refine Go 120 Tryz.func106<|sR [0,1]<|Vs 2<|Nss<|Bk<|sR (rG 5)<|Vs 3<|Ld hz.at0<|Vs 1<|Nt<|Cd h (fun cn co=>?_) (fun cn cp=>?_)
 ·refine sR [0,1]<|Vs 2<|Nt<|Rt<|Ar<|Ad ?_;obtain rfl:=Aa co;exact ReB [bF,bF] hz (Acu _) ⟨ha,hb,hh,hg,ho,rfl,rfl,ht,hu,hp⟩
 ·refine sR (rG 6)<|Vs 3<|Ld hz.at0<|Vs 2<|Nt<|Cd cp (fun cq cr=>?_) (fun cq ct=>?_)
  ·refine Sq<|Sq ?_;obtain⟨O,cu,cv⟩:=bS cr;refine RD 16 16 [] [] hz (fun f w=>∃(F1:_)(bc:AcQ)(bd:_)(be:AcQ)(bf:_)(bh:_),HS wb Fb w F1 ((sb I (kW O.2 bc bd be bf Y h4 h5 Z h0 h6 h7 h1 h2 h8 h9 h3 (vi O.2.2.2.2.2.2.2.2.2.2.1) (.bool O.2.2.2.2.2.2.2.2.2.2.2)) 130)::bh::Lf)/\Acs F0 F1/\FI f [] [(0,(pt I 0)),(4,(.bool O.1))]/\LC O.2.2.2.2.2.2.2.2.1.length bd/\SlA AO F1 bc O.2.2.2.2.2.2.2.2.1/\Aq AR 34 F1 be bf O.2.2.2.2.2.2.2.2.2.1 bh) (fun ir hn=>?_) ?_
   ·refine Dv [0,1,2,3,5,6,10,11,12,13]<|D1 4<|AcD (l':=[tt,tt,tt,tt,tt,tt,tt,ff,ff,ff,tt,tt,tt,tt,ff,ff]) (zd:=true) (by kernel_rfl) (by kernel_rfl) (dst:=some 24) (ty:=3) (g:=none) (by kernel_rfl) rfl (Cn (t:=3) (x:=.tmp 23) (b:=I) (o:=19) (g:=false) (s:=1) (C:=kU G.o_ G.l_ ha hb hh hg Y h4 h5 Z h0 h6 h7 h1 h2 h8 h9 h3 (vi G.done_) (.bool G.ended_)) (v:=vi G.done_) rfl (by kernel_rfl) hn.at0 rfl rfl rfl) (BI hn (Acu _) (by simp) (fun e=>by cases e))<|Sd cu (fun bz cw=>?_) (fun bz cx=>?_)
    ·refine Dt 7 27 0 (pt I 9) (fun _ hq=>NU (t:=110) (E:=109) (len:=5) (s:=2) (g:=true) (x:=.tmp 26) (y:=.tmp 24) (k:=.i64) (b:=I) (o0:=9) (o1:=9) (i:=G.done_) (n:=0) rfl rfl (by kernel_rfl) (by kernel_rfl) bz (by decide) rfl) ?_;refine Dv [8]<|D1 9<|AcD (l':=[tt,tt,tt,tt,tt,tt,tt,tt,tt,tt,tt,tt,tt,tt,ff,ff]) (zd:=true) (by kernel_rfl) (by kernel_rfl) (dst:=some 29) (ty:=106) (g:=none) (by kernel_rfl) rfl (Cn (t:=106) (x:=.tmp 28) (b:=I) (o:=9) (g:=false) (s:=1) (C:=kU G.o_ G.l_ ha hb hh hg Y h4 h5 Z h0 h6 h7 h1 h2 h8 h9 h3 (vi G.done_) (.bool G.ended_)) (v:=fV 153 #[]) rfl (by kernel_rfl) hn.at0 rfl rfl rfl) (BI hn (Acu _) (by simp) (fun e=>by cases e))<|D1 14 ?_;obtain⟨it,cy,cz⟩:=bS cw;refine DCB (cO 153) (Pk N hG I G ha hb Y h4 h5 Z h0 h6 h7 h1 h2 h8 h9 h3 hh hg ho ht hu b0 b1 b2 b3 b4 b5 b6 b7 b8 b9 ba bb hp x1 hn _ cy) ?_;rintro _ F2 iu _ c0 c1 ⟨d0,d1,d2,d3,d4,rfl,rfl,d6,d7,d8⟩;refine⟨BI c0 c1 (by simp) (zdT (by kernel_rfl)),?_⟩;refine Dv [15] ?_;obtain rfl:=Aa cz;exact AcG (by kernel_rfl) ⟨F2,d0,d1,d2,d3,d4,c0,c1,fI,d6,d7,d8⟩
    ·refine Sd cx (fun c3 d9=>?_) (fun c3 da=>?_)
     ·refine Dt 7 27 0 (pt I 11) (fun _ hq=>NU (t:=110) (E:=109) (len:=5) (s:=2) (g:=true) (x:=.tmp 26) (y:=.tmp 24) (k:=.i64) (b:=I) (o0:=9) (o1:=11) (i:=G.done_) (n:=1) rfl rfl (by kernel_rfl) (by kernel_rfl) c3 (by decide) rfl) ?_;refine Dv [8]<|D1 9<|AcD (l':=[tt,tt,tt,tt,tt,tt,tt,tt,tt,tt,tt,tt,tt,tt,ff,ff]) (zd:=true) (by kernel_rfl) (by kernel_rfl) (dst:=some 29) (ty:=106) (g:=none) (by kernel_rfl) rfl (Cn (t:=106) (x:=.tmp 28) (b:=I) (o:=11) (g:=false) (s:=1) (C:=kU G.o_ G.l_ ha hb hh hg Y h4 h5 Z h0 h6 h7 h1 h2 h8 h9 h3 (vi G.done_) (.bool G.ended_)) (v:=fV 190 #[pt Y 0,pt h4 0,pt h5 0,pt Z 0]) rfl (by kernel_rfl) hn.at0 rfl rfl rfl) (BI hn (Acu _) (by simp) (fun e=>by cases e))<|D1 14 ?_;obtain⟨iv,db,dc⟩:=bS d9;refine DCB (cO 190) (MP N hG I G ha hb Y h4 h5 Z h0 h6 h7 h1 h2 h8 h9 h3 hh hg ho ht hu b0 b1 b2 b3 b4 b5 b6 b7 b8 b9 ba bb hp x1 Y ([67,65,84,69,71,79,82,89]:AcP) b0 h4 1 b1 h5 9 b2 Z b3 hn _ db) ?_;rintro _ F3 iw _ c4 c5 ⟨dd,de,df,dg,dh,rfl,rfl,di,dj,dk⟩;refine⟨BI c4 c5 (by simp) (zdT (by kernel_rfl)),?_⟩;refine Dv [15] ?_;obtain rfl:=Aa dc;exact AcG (by kernel_rfl) ⟨F3,dd,de,df,dg,dh,c4,c5,fI,di,dj,dk⟩
     ·refine Sd da (fun c6 dl=>?_) (fun c6 dm=>?_)
      ·refine Dt 7 27 0 (pt I 13) (fun _ hq=>NU (t:=110) (E:=109) (len:=5) (s:=2) (g:=true) (x:=.tmp 26) (y:=.tmp 24) (k:=.i64) (b:=I) (o0:=9) (o1:=13) (i:=G.done_) (n:=2) rfl rfl (by kernel_rfl) (by kernel_rfl) c6 (by decide) rfl) ?_;refine Dv [8]<|D1 9<|AcD (l':=[tt,tt,tt,tt,tt,tt,tt,tt,tt,tt,tt,tt,tt,tt,ff,ff]) (zd:=true) (by kernel_rfl) (by kernel_rfl) (dst:=some 29) (ty:=106) (g:=none) (by kernel_rfl) rfl (Cn (t:=106) (x:=.tmp 28) (b:=I) (o:=13) (g:=false) (s:=1) (C:=kU G.o_ G.l_ ha hb hh hg Y h4 h5 Z h0 h6 h7 h1 h2 h8 h9 h3 (vi G.done_) (.bool G.ended_)) (v:=fV 190 #[pt h0 0,pt h6 0,pt h7 0,pt h1 0]) rfl (by kernel_rfl) hn.at0 rfl rfl rfl) (BI hn (Acu _) (by simp) (fun e=>by cases e))<|D1 14 ?_;obtain⟨iy,dn,dp⟩:=bS dl;refine DCB (cO 190) (MN N hG I G ha hb Y h4 h5 Z h0 h6 h7 h1 h2 h8 h9 h3 hh hg ho ht hu b0 b1 b2 b3 b4 b5 b6 b7 b8 b9 ba bb hp x1 h0 ([80,79,87,69,82]:AcP) b4 h6 1 b5 h7 9999 b6 h1 b7 hn _ dn) ?_;rintro _ F4 iz _ c7 c8 ⟨dq,dr,ds,dt,du,rfl,rfl,dv,dw,dx⟩;refine⟨BI c7 c8 (by simp) (zdT (by kernel_rfl)),?_⟩;refine Dv [15] ?_;obtain rfl:=Aa dp;exact AcG (by kernel_rfl) ⟨F4,dq,dr,ds,dt,du,c7,c8,fI,dv,dw,dx⟩
      ·refine Sd dm (fun c9 dy=>?_) (fun c9 dz=>?_)
       ·refine Dt 7 27 0 (pt I 15) (fun _ hq=>NU (t:=110) (E:=109) (len:=5) (s:=2) (g:=true) (x:=.tmp 26) (y:=.tmp 24) (k:=.i64) (b:=I) (o0:=9) (o1:=15) (i:=G.done_) (n:=3) rfl rfl (by kernel_rfl) (by kernel_rfl) c9 (by decide) rfl) ?_;refine Dv [8]<|D1 9<|AcD (l':=[tt,tt,tt,tt,tt,tt,tt,tt,tt,tt,tt,tt,tt,tt,ff,ff]) (zd:=true) (by kernel_rfl) (by kernel_rfl) (dst:=some 29) (ty:=106) (g:=none) (by kernel_rfl) rfl (Cn (t:=106) (x:=.tmp 28) (b:=I) (o:=15) (g:=false) (s:=1) (C:=kU G.o_ G.l_ ha hb hh hg Y h4 h5 Z h0 h6 h7 h1 h2 h8 h9 h3 (vi G.done_) (.bool G.ended_)) (v:=fV 190 #[pt h2 0,pt h8 0,pt h9 0,pt h3 0]) rfl (by kernel_rfl) hn.at0 rfl rfl rfl) (BI hn (Acu _) (by simp) (fun e=>by cases e))<|D1 14 ?_;obtain⟨j0,e0,e1⟩:=bS dy;refine DCB (cO 190) (MO N hG I G ha hb Y h4 h5 Z h0 h6 h7 h1 h2 h8 h9 h3 hh hg ho ht hu b0 b1 b2 b3 b4 b5 b6 b7 b8 b9 ba bb hp x1 h2 ([67,76,65,73,77,69,68]:AcP) b8 h8 0 b9 h9 1000000 ba h3 bb hn _ e0) ?_;rintro _ F5 j1 _ ca cb ⟨e2,e3,e4,e6,e7,rfl,rfl,e8,e9,ea⟩;refine⟨BI ca cb (by simp) (zdT (by kernel_rfl)),?_⟩;refine Dv [15] ?_;obtain rfl:=Aa e1;exact AcG (by kernel_rfl) ⟨F5,e2,e3,e4,e6,e7,ca,cb,fI,e8,e9,ea⟩
       ·refine Sd dz (fun cc eb=>?_) (fun cc ec=>?_)
        ·refine Dt 7 27 0 (pt I 17) (fun _ hq=>NU (t:=110) (E:=109) (len:=5) (s:=2) (g:=true) (x:=.tmp 26) (y:=.tmp 24) (k:=.i64) (b:=I) (o0:=9) (o1:=17) (i:=G.done_) (n:=4) rfl rfl (by kernel_rfl) (by kernel_rfl) cc (by decide) rfl) ?_;refine Dv [8]<|D1 9<|AcD (l':=[tt,tt,tt,tt,tt,tt,tt,tt,tt,tt,tt,tt,tt,tt,ff,ff]) (zd:=true) (by kernel_rfl) (by kernel_rfl) (dst:=some 29) (ty:=106) (g:=none) (by kernel_rfl) rfl (Cn (t:=106) (x:=.tmp 28) (b:=I) (o:=17) (g:=false) (s:=1) (C:=kU G.o_ G.l_ ha hb hh hg Y h4 h5 Z h0 h6 h7 h1 h2 h8 h9 h3 (vi G.done_) (.bool G.ended_)) (v:=fV 159 #[]) rfl (by kernel_rfl) hn.at0 rfl rfl rfl) (BI hn (Acu _) (by simp) (fun e=>by cases e))<|D1 14 ?_;obtain⟨j2,ed,ee⟩:=bS eb;refine DCB (cO 159) (OH N hG I G ha hb Y h4 h5 Z h0 h6 h7 h1 h2 h8 h9 h3 hh hg ho ht hu b0 b1 b2 b3 b4 b5 b6 b7 b8 b9 ba bb hp x1 hn _ ed) ?_;rintro _ F6 j3 _ cd ce ⟨ef,eg,eh,ei,ej,rfl,rfl,ek,el,en⟩;refine⟨BI cd ce (by simp) (zdT (by kernel_rfl)),?_⟩;refine Dv [15] ?_;obtain rfl:=Aa ee;exact AcG (by kernel_rfl) ⟨F6,ef,eg,eh,ei,ej,cd,ce,fI,ek,el,en⟩
        ·cases ec
   ·rintro f j4 ⟨F1,bc,bd,be,bf,bh,bq,eo,⟨_,rfl⟩,ep,er,et⟩;refine Ab<|sR [0]<|Vs 1<|Nt ?_;obtain⟨eu,ev,ew⟩:=bS cv;refine AcA (kP wb Fb F1 ((sb I (kW O.2 bc bd be bf Y h4 h5 Z h0 h6 h7 h1 h2 h8 h9 h3 (vi eu) (.bool O.2.2.2.2.2.2.2.2.2.2.2)) 130)::bh::Lf) [] [(4,(.bool O.1))]) ?_ ?_
    ·refine Cd ev (fun ex ey=>?_) (fun ex ez=>?_)
     ·refine Rg (rG 8)<|Vs 3<|Ld bq.at0<|Vs 3<|St0 #[.bool O.2.1,.bool O.2.2.1,.bool O.2.2.2.1,sv O.2.2.2.2.1,vi O.2.2.2.2.2.1,vi O.2.2.2.2.2.2.1,vi O.2.2.2.2.2.2.2.1,sL bc O.2.2.2.2.2.2.2.2.1 bd,sL be O.2.2.2.2.2.2.2.2.2.1 bf,fV 153 #[],fV 154 #[],fV 190 #[pt Y 0,pt h4 0,pt h5 0,pt Z 0],fV 191 #[pt Y 0,pt Z 0],fV 190 #[pt h0 0,pt h6 0,pt h7 0,pt h1 0],fV 191 #[pt h0 0,pt h1 0],fV 190 #[pt h2 0,pt h8 0,pt h9 0,pt h3 0],fV 191 #[pt h2 0,pt h3 0],fV 159 #[],fV 160 #[],vi (W64 (O.2.2.2.2.2.2.2.2.2.2.1 + 1)),.bool O.2.2.2.2.2.2.2.2.2.2.2] bq (fun j5 g0=>?_);refine Aco ?_;obtain rfl:=Aa ey;exact .inl ⟨rfl,F1,g0,Acu _,fI⟩
     ·refine Sc ?_;obtain rfl:=Aa ez;exact .inl ⟨rfl,F1,bq,Acu _,fI⟩
    ·rintro f j6 ⟨F7,g1,br,⟨_,rfl⟩⟩;refine Ab<|sR [0,1,2]<|Vs 3<|Nt<|Rt<|Ar<|Ad ?_;obtain rfl:=Aa ew;exact ReB [.bool O.1,bF] g1 (eo.t br) ⟨bc,bd,be,bf,bh,rfl,rfl,ep,Acw er br,et.mono br⟩
  ·refine sR [0,1,2]<|Vs 3<|Nt<|Cd ct (fun g2 g3=>?_) (fun g2 g4=>?_)
   ·refine sR (rG 4)<|Vs 3<|St0 (kU G.o_ G.l_ ha hb hh hg Y h4 h5 Z h0 h6 h7 h1 h2 h8 h9 h3 (vi G.done_) bT) hz (fun j7 g5=>?_);refine nR [0,1]<|Vs 2<|Nt<|Rt<|Ar<|Ad ?_;obtain rfl:=Aa g3;exact ReB [bT,bF] g5 (Acu _) ⟨ha,hb,hh,hg,ho,rfl,rfl,ht,hu,hp⟩
   ·refine Sc<|Am<|Ab<|sR (rG 12)<|Vs 3<|Ld hz.at0<|Vs 1 ?_;obtain⟨J,g6,g7⟩:=bS g4;refine Cl' (cO 31) hz (Kt N w0 F0 hz.pers hG (lY G.o_) x1 _ g6) ?_;rintro _ F8 j8 g8 hr rfl;refine Vs 3<|Al' 34 zA g8 (fun hw j9 g9=>?_);refine St0 (Cj J.1) g9 (fun ja cf=>?_);refine Vs 1<|Nss<|sR (rG 7)<|Vs 4<|Ld cf.at1<|Vs 2<|Nss ?_;obtain⟨ga,gh,gi⟩:=bS g7;refine RD 36 36 [sb hw (Cj J.1) 34,sb I (kU G.o_ G.l_ ha hb hh hg Y h4 h5 Z h0 h6 h7 h1 h2 h8 h9 h3 (vi G.done_) (.bool G.ended_)) 130,ho] [] cf (kP wb Fb F8 ((sb hw (Cj J.1) 34)::(sb I (kU G.o_ G.l_ ha hb hh hg Y h4 h5 Z h0 h6 h7 h1 h2 h8 h9 h3 (vi G.done_) (.bool G.ended_)) 130)::ho::Lf) [] [(0,(pt I 0)),(6,(pt hw 0)),(100,(.bool ga))]) (fun jb bj=>?_) ?_
    ·refine Dvl [0,1,2] (tf 3 33)<|Sd gh (fun hc gk=>?_) (fun hc gl=>?_)
     ·refine Dgl 3 68 0 (pt hw 0) (tf 4 32) 2 true 67 hc (fun _ hq=>fa 34 6 0 0 1 hw 0 0) ?_;refine Dgl 4 69 3 _ (tf 5 31) 2 true 67 hc (fun _ hq=>ld 3 68 hw 0 false 1 (vi J.1.Num) (hq.1.2 0 _ _ rfl))<|Dgl 5 70 128 _ (tf 6 30) 2 true 67 hc (fun _ hq=>mv 0 (pt I 0))<|Dgl 6 71 0 (pt I 0) (tf 7 29) 2 true 67 hc (fun _ hq=>GJ (x:=.tmp 70) (a:=⟨I,0,none⟩) rfl)<|Dgl 7 72 0 (pt I 3) (tf 8 28) 2 true 67 hc (fun _ hq=>fa 130 71 1 3 6 I 0 3)<|Dgl 8 73 0 (pt I 8) (tf 9 27) 2 true 67 hc (fun _ hq=>fa 27 72 5 5 1 I 3 8)<|Dgl 9 74 25 _ (tf 10 26) 2 true 67 hc (fun _ hq=>ld 25 73 I 8 false 1 (sL hh G.l_.Lines hg) (hq.1.2 1 _ _ rfl))<|Dgl 10 75 3 _ (tf 11 25) 2 true 67 hc (fun _ hq=>mv 8 (vi (G.l_.Lines.length:Int)))<|Dgl 11 76 3 (vi (W64 ((G.l_.Lines.length:Int) - 1))) (tf 12 24) 2 true 67 hc (fun _ hq=>Kw (t:=3) (t':=3) (x:=.tmp 75) (y:=.const (vi 1)) (k:=.i64) (a:=(G.l_.Lines.length:Int)) (b:=1) rfl rfl) ?_;obtain⟨bk,gm,gn⟩:=bS gk;obtain⟨go,hx135'⟩:=Ag gm;obtain⟨hx,jc,rfl,rfl,hE142⟩:=AcK (hp.mono hr) hx135';have gp:=(hp.mono hr);have gr:=hE142 _ _ hx135';refine Dgl 12 77 0 (.pointer (some ⟨hx,((W64 ((G.l_.Lines.length:Int) - 1)):Int).toNat * 11,none⟩)) (tf 13 23) 2 true 67 hc (fun _ hq=>BX (t:=25) (x:=.tmp 74) (y:=.tmp 76) (b:=hx) (E:=34) (s:=11) (by_:=96) rfl rfl (by kernel_rfl) go)<|Dgl 13 78 0 (.pointer (some ⟨hx,((W64 ((G.l_.Lines.length:Int) - 1)):Int).toNat * 11,none⟩)) (tf 14 22) 2 true 67 hc (fun _ hq=>fa 34 77 0 0 1 hx (((W64 ((G.l_.Lines.length:Int) - 1)):Int).toNat * 11) (((W64 ((G.l_.Lines.length:Int) - 1)):Int).toNat * 11))<|Dgl 14 79 3 _ (tf 15 21) 2 true 67 hc (fun _ hq=>lx 3 78 0 11 false 1 (vi bk.Num) (hq.1.2 2 _ _ rfl) gr)<|Dgl 15 80 4 (.bool (decide (J.1.Num<=bk.Num))) (tf 16 20) 2 true 67 hc (fun _ hq=>NT (t:=3) (t':=3) (x:=.tmp 69) (y:=.tmp 79) (k:=.i64) (a:=J.1.Num) (b:=bk.Num) rfl rfl)<|Dgl 16 81 4 _ (tf 17 19) 2 true 67 hc (fun _ hq=>mv 80 (.bool (decide (J.1.Num<=bk.Num))))<|Sd gn (fun hm gs=>?_) (fun hm gu=>?_)
      ·refine Dkl [(17,82),(18,83),(19,84),(20,85),(21,86),(22,87)] 16 false 81 hm (tf 23 13)<|Dkl [(23,88),(24,89),(25,90),(26,91),(27,92),(28,93)] 16 false 81 hm (tf 29 7)<|Dkl [(29,94)] 16 false 81 hm (tf 30 6)<|Dgl 30 95 4 _ (tf 31 5) 2 true 67 hc (fun _ hq=>p1 81 (.const bT) (.tmp 94) bT hm)<|Dtl 31 96 4 _ (tf 32 4) (fun _ hq=>p1 67 (.tmp 95) (.const bF) bT hc)<|Dvl [32] (tf 33 3)<|Dkl [(33,98),(34,99)] 32 false 97 rfl (tf 35 1)<|Dtl 35 100 4 _ (tf 36 0) (fun _ hq=>p1 97 (.const bT) (.tmp 99) bT rfl) ?_;obtain rfl:=Aa gs;exact AcG (by kernel_rfl) ⟨F8,bj,Acu _,fI⟩
      ·refine Dgl 17 82 0 (pt hw 3) (tf 18 18) 16 false 81 hm (fun _ hq=>fa 34 6 3 3 1 hw 0 3) ?_;refine Dgl 18 83 3 _ (tf 19 17) 16 false 81 hm (fun _ hq=>ld 3 82 hw 3 false 1 (vi J.1.Minute) (hq.1.2 0 _ _ rfl))<|Dgl 19 84 128 _ (tf 20 16) 16 false 81 hm (fun _ hq=>mv 0 (pt I 0))<|Dgl 20 85 0 (pt I 0) (tf 21 15) 16 false 81 hm (fun _ hq=>GJ (x:=.tmp 84) (a:=⟨I,0,none⟩) rfl)<|Dgl 21 86 0 (pt I 3) (tf 22 14) 16 false 81 hm (fun _ hq=>fa 130 85 1 3 6 I 0 3)<|Dgl 22 87 0 (pt I 8) (tf 23 13) 16 false 81 hm (fun _ hq=>fa 27 86 5 5 1 I 3 8)<|Dgl 23 88 25 _ (tf 24 12) 16 false 81 hm (fun _ hq=>ld 25 87 I 8 false 1 (sS hx 0 G.l_.Lines hg) (hq.1.2 1 _ _ rfl))<|Dgl 24 89 3 _ (tf 25 11) 16 false 81 hm (fun _ hq=>mv 8 (vi (G.l_.Lines.length:Int)))<|Dgl 25 90 3 (vi (W64 ((G.l_.Lines.length:Int) - 1))) (tf 26 10) 16 false 81 hm (fun _ hq=>Kw (t:=3) (t':=3) (x:=.tmp 89) (y:=.const (vi 1)) (k:=.i64) (a:=(G.l_.Lines.length:Int)) (b:=1) rfl rfl) ?_;obtain⟨bi,gv,gw⟩:=bS gu;obtain⟨gx,hx150'⟩:=Ag gv;obtain⟨jd,je,gy,gz,hE157⟩:=AcK gp hx150';cases gy;cases gz;have i0:=hE157 _ _ hx150';refine Dgl 26 91 0 (.pointer (some ⟨hx,((W64 ((G.l_.Lines.length:Int) - 1)):Int).toNat * 11,none⟩)) (tf 27 9) 16 false 81 hm (fun _ hq=>BX (t:=25) (x:=.tmp 88) (y:=.tmp 90) (b:=hx) (E:=34) (s:=11) (by_:=96) rfl rfl (by kernel_rfl) gx)<|Dgl 27 92 0 (.pointer (some ⟨hx,(((W64 ((G.l_.Lines.length:Int) - 1)):Int).toNat * 11) + 3,none⟩)) (tf 28 8) 16 false 81 hm (fun _ hq=>fa 34 91 3 3 1 hx (((W64 ((G.l_.Lines.length:Int) - 1)):Int).toNat * 11) ((((W64 ((G.l_.Lines.length:Int) - 1)):Int).toNat * 11) + 3))<|Dgl 28 93 3 _ (tf 29 7) 16 false 81 hm (fun _ hq=>lx 3 92 3 11 false 1 (vi bi.Minute) (hq.1.2 2 _ _ rfl) i0)<|Dgl 29 94 4 (.bool (decide (J.1.Minute < bi.Minute))) (tf 30 6) 16 false 81 hm (fun _ hq=>Ky (t:=3) (t':=3) (x:=.tmp 83) (y:=.tmp 93) (k:=.i64) (a:=J.1.Minute) (b:=bi.Minute) rfl rfl)<|Dgl 30 95 4 _ (tf 31 5) 2 true 67 hc (fun _ hq=>p0 81 (.const bT) (.tmp 94) (.bool (decide (J.1.Minute < bi.Minute))) hm)<|Dtl 31 96 4 _ (tf 32 4) (fun _ hq=>p1 67 (.tmp 95) (.const bF) (.bool (decide (J.1.Minute < bi.Minute))) hc)<|Dvl [32] (tf 33 3)<|Sd gw (fun bg i1=>?_) (fun bg i2=>?_)
       ·refine Dkl [(33,98),(34,99)] 32 false 97 bg (tf 35 1)<|Dtl 35 100 4 _ (tf 36 0) (fun _ hq=>p1 97 (.const bT) (.tmp 99) bT bg) ?_;obtain rfl:=Aa i1;exact AcG (by kernel_rfl) ⟨F8,bj,Acu _,fI⟩
       ·refine Dgl 33 98 35 _ (tf 34 2) 32 false 97 bg (fun _ hq=>mv 7 (vi J.2)) ?_;refine Dgl 34 99 4 (.bool (J.2 !=0)) (tf 35 1) 32 false 97 bg (fun _ hq=>Qr (t:=35) (t':=35) (x:=.tmp 98) (y:=.const (vi 0)) (k:=.i64) (a:=J.2) (b:=0) rfl rfl)<|Dtl 35 100 4 _ (tf 36 0) (fun _ hq=>p0 97 (.const bT) (.tmp 99) (.bool (J.2 !=0)) bg) ?_;obtain rfl:=Aa i2;exact AcG (by kernel_rfl) ⟨F8,bj,Acu _,fI⟩
     ·refine Dkl [(3,68),(4,69),(5,70),(6,71),(7,72),(8,73)] 2 true 67 hc (tf 9 27)<|Dkl [(9,74),(10,75),(11,76),(12,77),(13,78),(14,79)] 2 true 67 hc (tf 15 21)<|Dkl [(15,80),(16,81)] 2 true 67 hc (tf 17 19)<|Dul [(17,82),(18,83),(19,84),(20,85),(21,86),(22,87)] 16 false 81 (tf 23 13)<|Dul [(23,88),(24,89),(25,90),(26,91),(27,92),(28,93)] 16 false 81 (tf 29 7)<|Dul [(29,94)] 16 false 81 (tf 30 6)<|Dkl [(30,95)] 2 true 67 hc (tf 31 5)<|Dtl 31 96 4 _ (tf 32 4) (fun _ hq=>p0 67 (.tmp 95) (.const bF) bF hc)<|Dvl [32] (tf 33 3)<|Dgl 33 98 35 _ (tf 34 2) 32 false 97 rfl (fun _ hq=>mv 7 (vi J.2)) ?_;refine Dgl 34 99 4 (.bool (J.2 !=0)) (tf 35 1) 32 false 97 rfl (fun _ hq=>Qr (t:=35) (t':=35) (x:=.tmp 98) (y:=.const (vi 0)) (k:=.i64) (a:=J.2) (b:=0) rfl rfl)<|Dtl 35 100 4 _ (tf 36 0) (fun _ hq=>p0 97 (.const bT) (.tmp 99) (.bool (J.2 !=0)) rfl) ?_;obtain rfl:=Aa gl;exact AcG (by kernel_rfl) ⟨F8,bj,Acu _,fI⟩
    ·rintro f jf ⟨F9,bl,hy,⟨_,rfl⟩⟩;refine Ab<|Cd gi (fun i3 i4=>?_) (fun i3 i5=>?_)
     ·refine sR [0,1]<|Vs 2<|Nt<|Rt<|Ad ?_;obtain rfl:=Aa i4;exact ReB [bF,bF] bl.dr0 (hr.t hy) ⟨ha,hb,hh,hg,ho,rfl,rfl,ht,Acw hu (hr.t hy),hp.mono (hr.t hy)⟩
     ·refine Sc<|Ab<|Sq<|sR (rG 7)<|Vs 4<|Ld bl.at1<|Vs 2<|Nt<|Cd i5 (fun i6 i7=>?_) (fun i6 i8=>?_)
      ·refine sR [0,1]<|Vs 2<|Nt<|Rt<|Ad ?_;obtain rfl:=Aa i7;exact ReB [bF,bT] bl.dr0 (hr.t hy) ⟨ha,hb,hh,hg,ho,rfl,rfl,ht,Acw hu (hr.t hy),hp.mono (hr.t hy)⟩
      ·refine Sc<|Ab<|Sq ?_;obtain⟨cg,i9,ia⟩:=bS i8;refine RD 12 13 [sb hw (Cj J.1) 34] [sb I (kU G.o_ G.l_ ha hb hh hg Y h4 h5 Z h0 h6 h7 h1 h2 h8 h9 h3 (vi G.done_) (.bool G.ended_)) 130] bl (fun f w=>∃(bm:_)(bn:AcQ)(bo:_)(bp:_),HS wb Fb w bm ((sb I (kT (.bool G.o_.Report) (.bool G.o_.Serial) (.bool G.o_.Zone) (sv G.l_.Call) (vi G.l_.Category) (vi G.l_.Power) (vi G.l_.Claimed) (sL ha G.l_.Jumps hb) (sL bn cg bo) Y h4 h5 Z h0 h6 h7 h1 h2 h8 h9 h3 (vi G.done_) (.bool G.ended_)) 130)::bp::Lf)/\Acs F9 bm/\FI f [] []/\Aq AR 34 bm bn bo cg bp) (fun jg ib=>?_) ?_
       ·refine Dv [0,1,2,3,4]<|Dl 5 (fun _ hq=>(hq.2 rfl).2 0 _ _ rfl)<|Dl 6 (fun _ hq=>hq.1.2 0 _ _ rfl)<|D1 7<|DBs 34 [vi J.1.Num,vi J.1.Khz,vi J.1.Mode,vi J.1.Minute,sv J.1.Call,vi J.1.Sent.Report,vi J.1.Sent.Serial,vi J.1.Sent.Zone,vi J.1.Got.Report,vi J.1.Got.Serial,vi J.1.Got.Zone] ib (Acu _) (fun ch jh ci=>?_);have ic:Aq AR 34 F9 (sA ch) 1 [J.1] (some ch,.cells (lA [vi J.1.Num,vi J.1.Khz,vi J.1.Mode,vi J.1.Minute,sv J.1.Call,vi J.1.Sent.Report,vi J.1.Sent.Serial,vi J.1.Sent.Zone,vi J.1.Got.Report,vi J.1.Got.Serial,vi J.1.Got.Zone]) 34 (0,0)):=AcJ ⟨rfl,rfl⟩ (by simp);refine D1 8 ?_;obtain⟨ie,ig,ii⟩:=bS i9;refine Acn WE ci (hp.mono (hr.t hy)) (ci.rd0 ic) ig (Acu _) (fun cj cl ij ji bs ik=>?_);refine D1 9<|AcD (l':=[tt,tt,tt,tt,tt,tt,tt,tt,tt,tt,ff,ff,ff]) (zd:=false) (by kernel_rfl) (by kernel_rfl) (dst:=some 117) (ty:=0) (g:=none) (by kernel_rfl) rfl (GJ (x:=.tmp 108) (a:=⟨I,0,none⟩) rfl) (BI bs (Acu _) (by simp) (fun _=>by simp))<|D1 10<|AcD (l':=[tt,tt,tt,tt,tt,tt,tt,tt,tt,tt,tt,ff,ff]) (zd:=false) (by kernel_rfl) (by kernel_rfl) (dst:=some 118) (ty:=0) (g:=none) (by kernel_rfl) rfl (EG (s:=130) (x:=.tmp 117) (i:=1) (o:=3) (k:=6) (b:=I) (o0:=0) rfl (by kernel_rfl) rfl (o1:=3) rfl) (BI bs (Acu _) (by simp) (fun _=>by simp))<|Dv [11]<|D1 12<|St (kT (.bool G.o_.Report) (.bool G.o_.Serial) (.bool G.o_.Zone) (sv G.l_.Call) (vi G.l_.Category) (vi G.l_.Power) (vi G.l_.Claimed) (sL ha G.l_.Jumps hb) (sL cj ie cl) Y h4 h5 Z h0 h6 h7 h1 h2 h8 h9 h3 (vi G.done_) (.bool G.ended_)) bs (Acu _) (fun jj io=>?_);obtain rfl:=Aa ii;exact AcG (by kernel_rfl) ⟨F9,cj,cl,ij,io.dr0.dr0,Acu _,fI,ik⟩
       ·rintro f jk ⟨bm,bn,bo,bp,ip,cm,⟨_,rfl⟩,iq⟩;refine Ab<|sR [0,1]<|Vs 2<|Nt<|Rt ?_;obtain rfl:=Aa ia;exact ReB [bT,bF] ip ((hr.t hy).trans cm) ⟨ha,hb,bn,bo,bp,rfl,rfl,ht,Acw hu ((hr.t hy).trans cm),iq⟩
def BN{σ:Type}(N:Nat)(y:(σ->(AcP×Bool)->Option (Bool×σ)))(z0:AcP)(s:σ):(AcP×σ)->Option (A2 σ (AcP×σ)):=fun G=>
 (bif(G.1 !=([]:AcP))then((strings_Cut N G.1 ([10]:AcP)).bind fun I=>((y G.2 (I.1,I.2.2)).bind fun J=>bif(!J.1)then some (.ret J.2)else some (.next (I.2.1,J.2))))else some (.done (G.1,G.2)))
def Ek{σ:Type}(N:Nat)(y:σ->(AcP×Bool)->Option (Bool×σ))(z0:AcP)(s:σ):Option σ:=
 ((AF (BN N y z0 s) N (z0,s)).bind fun o=>o.k (fun r=>some r) (fun G=>some G.2))
theorem Mb(N:Nat)(F0:Mem)(hG:BH F0)(z0:AcP)(I:Nat):
  W8 Tryz.prog 169 [pt I 0] F0 [sb I #[sv z0] 9] V7 Ys Yh (fun{_} y s=>Ek N y z0 s):=by
 intro σ wb w0 Fb F1 l y J s r Lf hg hJm h6 hJ hY h;have h6:HS wb Fb w0 F1 ((sb I #[sv z0] 9)::Lf):=h6;refine R9 (n:=20) (c:=Sj Tryz.f169) Tryz.func169 (by kernel_rfl) (by kernel_rfl) (by kernel_rfl) ?_;obtain⟨o1,hh,h3⟩:=bS h;refine AcA (fun f w=>∃(h7:(AcP×σ))(Z:_)(h4:Own),o1=.done h7/\HS wb Fb w Z h4/\Acs F1 Z/\FI f [] []/\J h7.2 Z h4) ?_ ?_
 ·refine Bk<|Acr (by kernel_rfl) (fun m f w=>∃(G:(AcP×σ))(O:Mem)(h0:Own),AF (BN N y z0 s) m G=some o1/\HS wb Fb w O ((sb I #[sv G.1] 9)::h0)/\Acs F1 O/\FI f [] [(0,(.func (.yield l) #[] #[])),(1,(pt I 0))]/\J G.2 O h0) N ⟨(z0,s),F1,Lf,hh,h6,Acu _,fI,hJ⟩ ?_;rintro bb f w5 ⟨G,O,h0,hm,h1,h2,⟨_,rfl⟩,hJ9⟩;obtain⟨hn,bc,rfl,ho,h8⟩:=AB hm;refine Sq<|sR [0,1]<|Ld h1.at0<|Vs 1<|Nt<|Cd ho (fun hp hq=>?_) (fun hp hr=>?_)
  ·refine Sc<|Ab<|Bk<|sR (rG 9)<|Ld h1.at0 ?_;obtain⟨Y,ht,hu⟩:=bS hq;refine Cl' (cO 164) h1 (M6 N w5 O h1.pers (hG.mono (hg.t h2)) G.1 ([10]:AcP) _ ht) ?_;rintro _ F4 hw hx h5 rfl;refine Vs 1<|Vs 1<|Vs 1<|Vs 1<|Vs 1<|Vs 1<|Vs 1<|Nss<|sR (rG 5)<|Vs 1<|Vs 1<|Vs 1 ?_;obtain⟨ha,hy,hz⟩:=bS hu;refine RWP.yield (dst:=some 17) (ty:=4) (g:=none) (by kernel_rfl) rfl (f0:=.tmp 14) (aos:=#[.tmp 15,.tmp 16]) (ats:=#[9,4]) (l:=l) (args:=[sv Y.1,.bool Y.2.2]) rfl rfl (hY G.2 (Y.1,Y.2.2) hw F4 [sb I #[sv G.1] 9] h0 ha (h2.t h5) trivial (hJm _ _ _ _ hJ9 h5) hx hy) ?_;rintro _ b0 ⟨F5,h9,rfl,b1,hb,hJ43⟩;have hc:HS wb Fb b0 F5 ((sb I #[sv G.1] 9)::h9):=b1;refine⟨_,rfl,?_⟩;refine Vs 1<|Nt<|Cd hz (fun b2 b3=>?_) (fun b2 b4=>?_)
   ·refine Rt<|Ad<|Ar<|Ad<|Ar ?_;have hret:=Bf b3 h8;subst hret;refine .inr ?_;have hfin:=Aa h3;subst hfin;exact⟨rfl,.tuple #[],aK [] [] trivial,F5,h9,rfl,hc.dr0,(h2.t h5).trans hb,hJ43⟩
   ·refine Sc<|Ab<|Rg [0,1]<|Vs 1<|St0 #[sv Y.2.1] hc (fun bd b5=>?_);refine Aco<|Am ?_;have b6:=Ay b4 h8;exact⟨hn,xF _,(Y.2.1,ha.2),F5,h9,b6,b5,(h2.t h5).trans hb,fI,hJ43⟩
  ·refine Ex<|Ak<|Ak<|Av rfl ?_;have b7:=AA hr h8;exact .inl ⟨rfl,(G.1,G.2),O,h0,b7,h1.dr0,h2,fI,hJ9⟩
 ·rintro f w14 ⟨h7,Z,h4,rfl,b8,b9,⟨_,rfl⟩,hJ18⟩;have ba:=AW h3;have hfin:=Aa ba;subst hfin;exact⟨rfl,.tuple #[],aK [] [] trivial,Z,h4,rfl,b8,b9,hJ18⟩

theorem OI(w0:World)(F0:Mem)(hF:AcR w0 F0)(I:AcP):
  Calls Tryz.prog 105 ([.string ⟨I.toArray⟩]:List Value).toArray w0 (Sr w0 F0 fun _ v L'=>∃(G:Nat),v=.func (.func 169) #[] #[.pointer (some ⟨G,0,none⟩)]/\L'=[(some G,.cells #[.string ⟨I.toArray⟩] 9 (0,0))]):=by
 have J:=Acv hF;refine Go 4 Tryz.func105<|sR [0,1] ?_;refine Bx' 9 #[.string ⟨I.toArray⟩] J (fun G w1 O=>?_);refine Vs 1<|Nss (Rg [0,1] ?_);refine Vs 2<|Nt<|Rt ?_;exact⟨rfl,_,AK (l:=[.tmp 2]) (by kernel_rfl) (vs:=[.func (.func 169) #[] #[.pointer (some ⟨G,0,none⟩)]]) ⟨by kernel_rfl,trivial⟩,_,F0,_,rfl,O,G,rfl,rfl⟩
def BO(N:Nat)(x0:Ac)(x1:AcP):(Int×Int×Bool×Bool×Bool×AcP×Int×Int×Int×List Int×List Line×Int×Bool×Int)->(AcP×Bool)->Option ((Int×Int×Bool×Bool×Bool×AcP×Int×Int×Int×List Int×List Line×Int×Bool×Int)×Bool):=fun I O=>
 ((bif O.2 then((A7 N ({o_:=({Report:=I.2.2.1,Serial:=I.2.2.2.1,Zone:=I.2.2.2.2.1}:Ac),l_:=({Call:=I.2.2.2.2.2.1,Category:=I.2.2.2.2.2.2.1,Power:=I.2.2.2.2.2.2.2.1,Claimed:=I.2.2.2.2.2.2.2.2.1,Jumps:=I.2.2.2.2.2.2.2.2.2.1,Lines:=I.2.2.2.2.2.2.2.2.2.2.1}:Log),done_:=I.2.2.2.2.2.2.2.2.2.2.2.1,ended_:=I.2.2.2.2.2.2.2.2.2.2.2.2.1}:Au) O.1).bind fun J=>some (J.2.1,J.2.2,J.1.o_.Report,J.1.o_.Serial,J.1.o_.Zone,J.1.l_.Call,J.1.l_.Category,J.1.l_.Power,J.1.l_.Claimed,J.1.l_.Jumps,J.1.l_.Lines,J.1.done_,J.1.ended_))else some (false,false,I.2.2.1,I.2.2.2.1,I.2.2.2.2.1,I.2.2.2.2.2.1,I.2.2.2.2.2.2.1,I.2.2.2.2.2.2.2.1,I.2.2.2.2.2.2.2.2.1,I.2.2.2.2.2.2.2.2.2.1,I.2.2.2.2.2.2.2.2.2.2.1,I.2.2.2.2.2.2.2.2.2.2.2.1,I.2.2.2.2.2.2.2.2.2.2.2.2.1)).bind fun G=>(bif G.2.1 then some ((2,(W64 (I.2.2.2.2.2.2.2.2.2.2.2.2.2 + 1)),G.2.2.1,G.2.2.2.1,G.2.2.2.2.1,G.2.2.2.2.2.1,G.2.2.2.2.2.2.1,G.2.2.2.2.2.2.2.1,G.2.2.2.2.2.2.2.2.1,G.2.2.2.2.2.2.2.2.2.1,G.2.2.2.2.2.2.2.2.2.2.1,G.2.2.2.2.2.2.2.2.2.2.2.1,G.2.2.2.2.2.2.2.2.2.2.2.2,(W64 (I.2.2.2.2.2.2.2.2.2.2.2.2.2 + 1))),false)else(bif(!G.1)then some ((20,(W64 (I.2.2.2.2.2.2.2.2.2.2.2.2.2 + 1)),G.2.2.1,G.2.2.2.1,G.2.2.2.2.1,G.2.2.2.2.2.1,G.2.2.2.2.2.2.1,G.2.2.2.2.2.2.2.1,G.2.2.2.2.2.2.2.2.1,G.2.2.2.2.2.2.2.2.2.1,G.2.2.2.2.2.2.2.2.2.2.1,G.2.2.2.2.2.2.2.2.2.2.2.1,G.2.2.2.2.2.2.2.2.2.2.2.2,(W64 (I.2.2.2.2.2.2.2.2.2.2.2.2.2 + 1))),false)else some ((I.1,I.2.1,G.2.2.1,G.2.2.2.1,G.2.2.2.2.1,G.2.2.2.2.2.1,G.2.2.2.2.2.2.1,G.2.2.2.2.2.2.2.1,G.2.2.2.2.2.2.2.2.1,G.2.2.2.2.2.2.2.2.2.1,G.2.2.2.2.2.2.2.2.2.2.1,G.2.2.2.2.2.2.2.2.2.2.2.1,G.2.2.2.2.2.2.2.2.2.2.2.2,(W64 (I.2.2.2.2.2.2.2.2.2.2.2.2.2 + 1))),true))))
def Hh(N:Nat)(I:Ac)(J:AcP):Option (Log×Int×Int):=
 (bif(decide ((J.length:Int) > 65536))then some (zO,2,0)else((Ek N (Uc (BO N I J)) J ((0,0,I.Report,I.Serial,I.Zone,([]:AcP),0,0,0,([]:List Int),([]:List Line),0,false,0),true)).bind fun G=>(bif G.2 then(bif(!G.1.2.2.2.2.2.2.2.2.2.2.2.2.1)then some (zO,20,(W64 (G.1.2.2.2.2.2.2.2.2.2.2.2.2.2 + 1)))else some (({Call:=G.1.2.2.2.2.2.1,Category:=G.1.2.2.2.2.2.2.1,Power:=G.1.2.2.2.2.2.2.2.1,Claimed:=G.1.2.2.2.2.2.2.2.2.1,Jumps:=G.1.2.2.2.2.2.2.2.2.2.1,Lines:=G.1.2.2.2.2.2.2.2.2.2.2.1}:Log),0,0))else some (zO,G.1.1,G.1.2.1))))
theorem G6(N:Nat)(w0:World)(F0:Mem)(hF:AcR w0 F0)(hG:BH F0)(x0:Ac)(x1:AcP)(r:(Log×Int×Int))(h:Hh N x0 x1=some r):
  cP 33 (lA [.agg (Ah x0),sv x1]) w0 (AD w0 F0 fun F' v=>∃(cf:AcQ)(cg:Nat)(ch:AcQ)(ci:Nat),v=(.tuple #[.agg (AM r.1 cf cg ch ci),vi r.2.1,vi r.2.2])/\LC r.1.Jumps.length cg/\SlA AO F' cf r.1.Jumps/\LC r.1.Lines.length ci/\SlA AR F' ch r.1.Lines):=by
 have dl:=Acv hF;refine To (n:=55) (c:=Sj Tryz.f33) Tryz.func33 (by kernel_rfl) (by kernel_rfl) (by kernel_rfl)<|sR (rG 4)<|Bx' 23 (Ah x0) dl (fun dm jr dn=>?_);refine Al' 27 zG dn (fun Z js dp=>?_);refine Al' 35 #[vi 0] dp (fun h0 jt dq=>?_);refine Al' 3 #[vi 0] dq (fun Y ju cj=>?_);refine Nss<|sR [0,1,2]<|Vs 3<|Nt<|Cd h (fun dr ds=>?_) (fun dr dt=>?_)
 ·refine sR (rG 4)<|Vs 1<|St2 zG cj (fun jv du=>?_);refine St1 #[vi 2] du (fun jw dv=>?_);refine St0 #[vi 0] dv (fun jx bg=>?_);refine Nt<|Rt<|Ad ?_;obtain rfl:=Aa ds;exact .inl ⟨rfl,.tuple #[.agg zG,vi 2,vi 0],aK [.cell 4 27,.cell 5 35,.cell 6 3] [.agg zG,vi 2,vi 0] ⟨Z,0,rfl,aL 27 6 bg.at2,⟨h0,0,rfl,Al (t:=35) (g:=false) (s:=1) (by kernel_rfl) bg.at1 rfl (by decide),⟨Y,0,rfl,Al (t:=3) (g:=false) (s:=1) (by kernel_rfl) bg.at0 rfl (by decide),trivial⟩⟩⟩,.tuple #[.agg zG,vi 2,vi 0],F0,rfl,bg.clear,⟨none,0,none,0,rfl,Acx,.inl rfl,Acx,.inl rfl⟩⟩
 ·refine Sc<|Ab<|Sq<|RD 5 6 [sb Y #[vi 0] 3,sb h0 #[vi 0] 35,sb Z zG 27,sb dm (Ah x0) 23] [] cj (fun f w=>∃F1 h7 O h1 h8 h9 h2 h3 ha hb h4 h5 hc hg h6,HS w0 F0 w F1 [sb h7 #[pt O 0] 128,sb O #[.bool x0.Report,.bool x0.Serial,.bool x0.Zone,sE,vi 0,vi 0,vi 0,sN Int,sN Line,fV 153 #[],fV 154 #[],fV 190 #[pt h1 0,pt h8 0,pt h9 0,pt h2 0],fV 191 #[pt h1 0,pt h2 0],fV 190 #[pt h3 0,pt ha 0,pt hb 0,pt h4 0],fV 191 #[pt h3 0,pt h4 0],fV 190 #[pt h5 0,pt hc 0,pt hg 0,pt h6 0],fV 191 #[pt h5 0,pt h6 0],fV 159 #[],fV 160 #[],vi 0,bF] 130,sb Y #[vi 0] 3,sb h0 #[vi 0] 35,sb Z zG 27]/\Acs F0 F1/\FI f [] [(1,(sv x1)),(4,(pt Z 0)),(5,(pt h0 0)),(6,(pt Y 0)),(7,(pt h7 0))]/\F1 h1=some (oc #[sv ([67,65,84,69,71,79,82,89]:AcP)] 9)/\F1 h8=some (oc #[vi 1] 3)/\F1 h9=some (oc #[vi 9] 3)/\F1 h2=some (oc #[fV 156 #[]] 195)/\F1 h3=some (oc #[sv ([80,79,87,69,82]:AcP)] 9)/\F1 ha=some (oc #[vi 1] 3)/\F1 hb=some (oc #[vi 9999] 3)/\F1 h4=some (oc #[fV 157 #[]] 195)/\F1 h5=some (oc #[sv ([67,76,65,73,77,69,68]:AcP)] 9)/\F1 hc=some (oc #[vi 0] 3)/\F1 hg=some (oc #[vi 1000000] 3)/\F1 h6=some (oc #[fV 158 #[]] 195)) (fun dw bv=>?_) ?_
  ·refine Dl 0 (fun _ hq=>hq.1.2 3 _ _ rfl) ?_;refine AcC (i:=1) (j:=4) (by kernel_rfl) ?_ ?_
   ·refine DCl (cO 89) bv (Iq dw F0 bv.pers) ?_;rintro _ F2 jy cl b5 ⟨b7,bh,bi,b8,b9,bj,bk,ba,bb,bl,bm,bc,rfl,cm,cn,co,cp,cq,cr,ct,cu,cv,cw,cx,cy⟩;refine Dv [2]<|AcC (i:=3) (j:=4) (by kernel_rfl) ?_ ?_
    ·refine DBx 130 #[.bool x0.Report,.bool x0.Serial,.bool x0.Zone,sE,vi 0,vi 0,vi 0,sN Int,sN Line,fV 153 #[],fV 154 #[],fV 190 #[pt b7 0,pt bh 0,pt bi 0,pt b8 0],fV 191 #[pt b7 0,pt b8 0],fV 190 #[pt b9 0,pt bj 0,pt bk 0,pt ba 0],fV 191 #[pt b9 0,pt ba 0],fV 190 #[pt bb 0,pt bl 0,pt bm 0,pt bc 0],fV 191 #[pt bb 0,pt bc 0],fV 159 #[],fV 160 #[],vi 0,bF] cl b5 (fun cz jz dx=>?_);refine D1 4<|DAl 128 #[.pointer none] dx b5 (fun dy k0 dz=>?_);refine D1 5<|EF #[pt cz 0] dz b5 (fun k1 e0=>?_);exact AcG (by kernel_rfl) ⟨F2,dy,cz,b7,bh,bi,b8,b9,bj,bk,ba,bb,bl,bm,bc,e0.dr5,b5,fI,cm,cn,co,cp,cq,cr,ct,cu,cv,cw,cx,cy⟩
    ·refine DAl 128 #[.pointer none] cl b5 (fun e1 k2 e2=>?_);refine D1 3<|DBx 130 #[.bool x0.Report,.bool x0.Serial,.bool x0.Zone,sE,vi 0,vi 0,vi 0,sN Int,sN Line,fV 153 #[],fV 154 #[],fV 190 #[pt b7 0,pt bh 0,pt bi 0,pt b8 0],fV 191 #[pt b7 0,pt b8 0],fV 190 #[pt b9 0,pt bj 0,pt bk 0,pt ba 0],fV 191 #[pt b9 0,pt ba 0],fV 190 #[pt bb 0,pt bl 0,pt bm 0,pt bc 0],fV 191 #[pt bb 0,pt bc 0],fV 159 #[],fV 160 #[],vi 0,bF] e2 b5 (fun d0 k3 e3=>?_);refine D1 5<|Qp #[pt d0 0] e3 b5 (fun k4 e4=>?_);have e6:=e4.dr5.pk4.pk4.pk4.pk3.pk4;exact AcG (by kernel_rfl) ⟨F2,e1,d0,b7,bh,bi,b8,b9,bj,bk,ba,bb,bl,bm,bc,e6,b5,fI,cm,cn,co,cp,cq,cr,ct,cu,cv,cw,cx,cy⟩
   ·refine DAl 128 #[.pointer none] bv (Acu _) (fun e7 e8 d1=>?_);refine D1 1<|DCl (cO 89) d1 (Iq e8 F0 d1.pers) ?_;rintro _ F3 k5 e9 bw ⟨bx,d2,d3,bz,c0,d4,d6,c1,c3,d7,d8,c4,rfl,ea,eb,ec,ed,ee,ef,eg,eh,ei,ej,ek,el⟩;refine Dv [2]<|D1 3<|DBx 130 #[.bool x0.Report,.bool x0.Serial,.bool x0.Zone,sE,vi 0,vi 0,vi 0,sN Int,sN Line,fV 153 #[],fV 154 #[],fV 190 #[pt bx 0,pt d2 0,pt d3 0,pt bz 0],fV 191 #[pt bx 0,pt bz 0],fV 190 #[pt c0 0,pt d4 0,pt d6 0,pt c1 0],fV 191 #[pt c0 0,pt c1 0],fV 190 #[pt c3 0,pt d7 0,pt d8 0,pt c4 0],fV 191 #[pt c3 0,pt c4 0],fV 159 #[],fV 160 #[],vi 0,bF] e9 bw (fun d9 k6 en=>?_);refine D1 5<|Qp #[pt d9 0] en bw (fun k7 eo=>?_);have ep:=eo.dr5.pk4.pk4.pk4.pk3.pk4;exact AcG (by kernel_rfl) ⟨F3,e7,d9,bx,d2,d3,bz,c0,d4,d6,c1,c3,d7,d8,c4,ep,bw,fI,ea,eb,ec,ed,ee,ef,eg,eh,ei,ej,ek,el⟩
  ·rintro f k8 ⟨F1,h7,O,h1,h8,h9,h2,h3,ha,hb,h4,h5,hc,hg,h6,er,da,⟨_,rfl⟩,et,eu,ev,ew,ex,ey,ez,g0,g1,g2,g3,g4⟩;refine Ab<|sR [0,1]<|Al' 3 #[vi 0] er (fun hh k9 g5=>?_);refine St0 #[vi 0] g5 (fun g6 db=>?_);refine Nss<|sR [0,1]<|Vs 1<|RWP.callO (dst:=some 22) (ty:=132) (g:=none) (by kernel_rfl) rfl (f0:=.func 105) (aos:=#[.tmp 21]) (ats:=#[9]) (fid:=105) (first:=#[]) (cap:=#[]) (args:=[sv x1]) rfl (cO 105) rfl db (OI g6 F1 db.pers x1) ?_;rintro _ F4 g7 _ g8 hm ⟨bn,rfl,rfl⟩;have g9:HS w0 F0 g7 F4 [sb bn #[sv x1] 9,sb hh #[vi 0] 3,sb h7 #[pt O 0] 128,sb O #[.bool x0.Report,.bool x0.Serial,.bool x0.Zone,sE,vi 0,vi 0,vi 0,sN Int,sN Line,fV 153 #[],fV 154 #[],fV 190 #[pt h1 0,pt h8 0,pt h9 0,pt h2 0],fV 191 #[pt h1 0,pt h2 0],fV 190 #[pt h3 0,pt ha 0,pt hb 0,pt h4 0],fV 191 #[pt h3 0,pt h4 0],fV 190 #[pt h5 0,pt hc 0,pt hg 0,pt h6 0],fV 191 #[pt h5 0,pt h6 0],fV 159 #[],fV 160 #[],vi 0,bF] 130,sb Y #[vi 0] 3,sb h0 #[vi 0] 35,sb Z zG 27]:=g8;refine Nt<|Bk ?_;have ga:=g9.dummy (oc #[] 0);have gh:=ga.pk7.pk7.pk7.pk7.pk7;obtain⟨G,gi,dc⟩:=bS dt;refine CWP.rangeRet (enc:=V7) (ok:=Ys) (px:=Yh) (m:=fun{_} y s=>Ek N y x1 s) (L:=[(none,.cells #[] 0 (0,0)),sb hh #[vi 0] 3,sb h7 #[pt O 0] 128,sb O #[.bool x0.Report,.bool x0.Serial,.bool x0.Zone,sE,vi 0,vi 0,vi 0,sN Int,sN Line,fV 153 #[],fV 154 #[],fV 190 #[pt h1 0,pt h8 0,pt h9 0,pt h2 0],fV 191 #[pt h1 0,pt h2 0],fV 190 #[pt h3 0,pt ha 0,pt hb 0,pt h4 0],fV 191 #[pt h3 0,pt h4 0],fV 190 #[pt h5 0,pt hc 0,pt hg 0,pt h6 0],fV 191 #[pt h5 0,pt h6 0],fV 159 #[],fV 160 #[],vi 0,bF] 130,sb Y #[vi 0] 3,sb h0 #[vi 0] 35,sb Z zG 27]) (B:=[sb bn #[sv x1] 9]) (ps:=[23,24]) (by kernel_rfl) (gf:=169) (cap:=[pt bn 0]) rfl (cO 169) rfl (by kernel_rfl) (by kernel_rfl) (fun _=>rfl) gh.pk7.pk6.pk7 (Mb N F4 (hG.mono (da.t hm)) x1 bn) (BO N x0 x1) (fun(J:(Int×Int×Bool×Bool×Bool×AcP×Int×Int×Int×List Int×List Line×Int×Bool×Int)) (F5:Mem) (Lq:Own)=>∃(b0:AcQ)(b1:Nat)(b2:AcQ)(b3:Nat)(b4:oO),Lq=[b4,sb hh #[vi J.2.2.2.2.2.2.2.2.2.2.2.2.2] 3,sb h7 #[pt O 0] 128,sb O (kW J.2.2 b0 b1 b2 b3 h1 h8 h9 h2 h3 ha hb h4 h5 hc hg h6 (vi J.2.2.2.2.2.2.2.2.2.2.2.1) (.bool J.2.2.2.2.2.2.2.2.2.2.2.2.1)) 130,sb Y #[vi J.2.1] 3,sb h0 #[vi J.1] 35,sb Z zG 27]/\LC J.2.2.2.2.2.2.2.2.2.1.length b1/\SlA AO F5 b0 J.2.2.2.2.2.2.2.2.2.1/\Aq AR 34 F5 b2 b3 J.2.2.2.2.2.2.2.2.2.2.1 b4) ?_ (s:=(0,0,x0.Report,x0.Serial,x0.Zone,([]:AcP),0,0,0,([]:List Int),([]:List Line),0,false,0)) (r:=G) ?_ gi ?_ ?_ ?_
   ·rintro s F F' L ⟨b0,b1,b2,b3,b4,rfl,bo,bp,bq⟩ hl;exact⟨b0,b1,b2,b3,b4,rfl,bo,bp.mono hl,bq.mono hl⟩
   ·exact⟨none,0,none,0,(none,.cells #[] 0 (0,0)),rfl,Acx,.inl rfl,AcI AR 34 F4 _⟩
   ·rintro ka J gk gl F5 _ Rf119 kb hn kc ⟨b0,b1,b2,b3,b4,rfl,bo,bp,bq⟩ gm gn;have go:=gn;have gp:HS w0 F0 gl F5 (b4::(sb hh #[vi J.2.2.2.2.2.2.2.2.2.2.2.2.2] 3)::(sb h7 #[pt O 0] 128)::(sb O (kW J.2.2 b0 b1 b2 b3 h1 h8 h9 h2 h3 ha hb h4 h5 hc hg h6 (vi J.2.2.2.2.2.2.2.2.2.2.2.1) (.bool J.2.2.2.2.2.2.2.2.2.2.2.2.1)) 130)::(sb Y #[vi J.2.1] 3)::(sb h0 #[vi J.1] 35)::(sb Z zG 27)::Rf119):=gm;refine sR [0]<|Vs 1<|Nt<|Rg [0]<|Vs 1<|Aco<|⟨rfl,F5,[b4,sb hh #[vi J.2.2.2.2.2.2.2.2.2.2.2.2.2] 3,sb h7 #[pt O 0] 128,sb O (kW J.2.2 b0 b1 b2 b3 h1 h8 h9 h2 h3 ha hb h4 h5 hc hg h6 (vi J.2.2.2.2.2.2.2.2.2.2.2.1) (.bool J.2.2.2.2.2.2.2.2.2.2.2.2.1)) 130,sb Y #[vi J.2.1] 3,sb h0 #[vi J.1] 35,sb Z zG 27],gp,fun gr Rf128 gs=>?_⟩;have dd:HS w0 F0 gr F5 (b4::(sb hh #[vi J.2.2.2.2.2.2.2.2.2.2.2.2.2] 3)::(sb h7 #[pt O 0] 128)::(sb O (kW J.2.2 b0 b1 b2 b3 h1 h8 h9 h2 h3 ha hb h4 h5 hc hg h6 (vi J.2.2.2.2.2.2.2.2.2.2.2.1) (.bool J.2.2.2.2.2.2.2.2.2.2.2.2.1)) 130)::(sb Y #[vi J.2.1] 3)::(sb h0 #[vi J.1] 35)::(sb Z zG 27)::Rf128):=gs;refine Bk<|sR [0,1,2]<|Ld dd.at1<|Vs 1<|St1 #[vi (W64 (J.2.2.2.2.2.2.2.2.2.2.2.2.2 + 1))] dd (fun kd c5=>?_);refine nR [0,1]<|Vs 2<|Nss<|sR [0]<|Vs 1<|Nt ?_;obtain⟨I,gu,gv⟩:=bS go;refine AcA (fun f w=>∃(F7:_)(ho:AcQ)(hp:_)(hr:AcQ)(ht:_)(hu:_),HS w0 F0 w F7 (hu::(sb hh #[vi (W64 (J.2.2.2.2.2.2.2.2.2.2.2.2.2 + 1))] 3)::(sb h7 #[pt O 0] 128)::(sb O (kW I.2.2 ho hp hr ht h1 h8 h9 h2 h3 ha hb h4 h5 hc hg h6 (vi I.2.2.2.2.2.2.2.2.2.2.2.1) (.bool I.2.2.2.2.2.2.2.2.2.2.2.2)) 130)::(sb Y #[vi J.2.1] 3)::(sb h0 #[vi J.1] 35)::(sb Z zG 27)::Rf128)/\Acs F5 F7/\FI f [] [(4,(pt Z 0)),(5,(pt h0 0)),(6,(pt Y 0)),(7,(pt h7 0)),(8,(pt hh 0)),(11,(.bool I.1)),(12,(.bool I.2.1))]/\LC I.2.2.2.2.2.2.2.2.2.1.length hp/\SlA AO F7 ho I.2.2.2.2.2.2.2.2.2.1/\Aq AR 34 F7 hr ht I.2.2.2.2.2.2.2.2.2.2.1 hu) ?_ ?_
    ·refine Cd gu (fun gw gx=>?_) (fun gw gy=>?_)
     ·refine Rg (rG 8)<|Ld c5.at2<|Vs 1 ?_;have gz:=c5.pk6.pk6.pk6.pk5.pk5;obtain⟨ke,i0,i1⟩:=bS gx;refine CB (cO 106) (MM N (hG.mono ((da.t hm).trans hn)) O ({o_:=({Report:=J.2.2.1,Serial:=J.2.2.2.1,Zone:=J.2.2.2.2.1}:Ac),l_:=({Call:=J.2.2.2.2.2.1,Category:=J.2.2.2.2.2.2.1,Power:=J.2.2.2.2.2.2.2.1,Claimed:=J.2.2.2.2.2.2.2.2.1,Jumps:=J.2.2.2.2.2.2.2.2.2.1,Lines:=J.2.2.2.2.2.2.2.2.2.2.1}:Log),done_:=J.2.2.2.2.2.2.2.2.2.2.2.1,ended_:=J.2.2.2.2.2.2.2.2.2.2.2.2.1}:Au) b0 b1 h1 h8 h9 h2 h3 ha hb h4 h5 hc hg h6 b2 b3 b4 bo bp ((hm.t hn) _ _ et) ((hm.t hn) _ _ eu) ((hm.t hn) _ _ ev) ((hm.t hn) _ _ ew) ((hm.t hn) _ _ ex) ((hm.t hn) _ _ ey) ((hm.t hn) _ _ ez) ((hm.t hn) _ _ g0) ((hm.t hn) _ _ g1) ((hm.t hn) _ _ g2) ((hm.t hn) _ _ g3) ((hm.t hn) _ _ g4) bq gk.1 gz.pk5.pk6 _ i0) ?_;rintro _ F8 kf _ i2 i3 ⟨i4,i5,i6,i7,i8,rfl,rfl,i9,ia,ib⟩;refine Vs 5<|Aco ?_;obtain rfl:=Aa i1;have ic:=i2.pk6.pk6.pk6.pk3.pk6;exact .inl ⟨rfl,F8,i4,i5,i6,i7,i8,ic.pk6.pk6,i3,fI,i9,ia,ib⟩
     ·refine Sc ?_;obtain rfl:=Aa gy;exact .inl ⟨rfl,F5,b0,b1,b2,b3,b4,c5,Acu _,fI,bo,bp,bq⟩
    ·rintro f kg ⟨F7,ho,hp,hr,ht,hu,c6,c7,⟨_,rfl⟩,c8,c9,ca⟩;refine Ab<|Bk<|sR [0,1]<|Vs 2<|Nt<|Cd gv (fun ie ig=>?_) (fun ie ii=>?_)
     ·refine Sq<|RD 4 5 [hu,sb hh #[vi (W64 (J.2.2.2.2.2.2.2.2.2.2.2.2.2 + 1))] 3,sb h7 #[pt O 0] 128,sb O (kW I.2.2 ho hp hr ht h1 h8 h9 h2 h3 ha hb h4 h5 hc hg h6 (vi I.2.2.2.2.2.2.2.2.2.2.2.1) (.bool I.2.2.2.2.2.2.2.2.2.2.2.2)) 130] [sb Y #[vi J.2.1] 3] c6 (kP w0 F0 F7 (hu::(sb hh #[vi (W64 (J.2.2.2.2.2.2.2.2.2.2.2.2.2 + 1))] 3)::(sb h7 #[pt O 0] 128)::(sb O (kW I.2.2 ho hp hr ht h1 h8 h9 h2 h3 ha hb h4 h5 hc hg h6 (vi I.2.2.2.2.2.2.2.2.2.2.2.1) (.bool I.2.2.2.2.2.2.2.2.2.2.2.2)) 130)::(sb Y #[vi (W64 (J.2.2.2.2.2.2.2.2.2.2.2.2.2 + 1))] 3)::(sb h0 #[vi 2] 35)::(sb Z zG 27)::Rf128) [] [(4,(pt Z 0)),(5,(pt h0 0)),(6,(pt Y 0)),(7,(pt h7 0)),(8,(pt hh 0))]) (fun kh ij=>?_) ?_
      ·refine Dv [0]<|Dl 1 (fun _ hq=>hq.1.2 1 _ _ rfl)<|D1 2<|AaN zG ij (Acu _) (fun ki ik=>?_);refine D1 3<|Wi #[vi 2] ik (Acu _) (fun kj io=>?_);refine D1 4<|Ab6 #[vi (W64 (J.2.2.2.2.2.2.2.2.2.2.2.2.2 + 1))] io (Acu _) (fun kl ip=>?_);exact AcG (by kernel_rfl) ⟨F7,ip,Acu _,fI⟩
      ·rintro f km ⟨F9,iq,cb,⟨_,rfl⟩⟩;refine Ab<|Rt<|Ar<|Ar ?_;obtain rfl:=Aa ig;exact⟨.inr ⟨rfl,rfl⟩,F9,[hu,sb hh #[vi (W64 (J.2.2.2.2.2.2.2.2.2.2.2.2.2 + 1))] 3,sb h7 #[pt O 0] 128,sb O (kW I.2.2 ho hp hr ht h1 h8 h9 h2 h3 ha hb h4 h5 hc hg h6 (vi I.2.2.2.2.2.2.2.2.2.2.2.1) (.bool I.2.2.2.2.2.2.2.2.2.2.2.2)) 130,sb Y #[vi (W64 (J.2.2.2.2.2.2.2.2.2.2.2.2.2 + 1))] 3,sb h0 #[vi 2] 35,sb Z zG 27],iq,c7.t cb,⟨ho,hp,hr,ht,hu,rfl,c8,Acw c9 cb,ca.mono cb⟩⟩
     ·refine sR [0,1,2]<|Vs 3<|Nt<|Cd ii (fun ir it=>?_) (fun ir iu=>?_)
      ·refine Sq<|RD 4 5 [hu,sb hh #[vi (W64 (J.2.2.2.2.2.2.2.2.2.2.2.2.2 + 1))] 3,sb h7 #[pt O 0] 128,sb O (kW I.2.2 ho hp hr ht h1 h8 h9 h2 h3 ha hb h4 h5 hc hg h6 (vi I.2.2.2.2.2.2.2.2.2.2.2.1) (.bool I.2.2.2.2.2.2.2.2.2.2.2.2)) 130] [sb Y #[vi J.2.1] 3] c6 (kP w0 F0 F7 (hu::(sb hh #[vi (W64 (J.2.2.2.2.2.2.2.2.2.2.2.2.2 + 1))] 3)::(sb h7 #[pt O 0] 128)::(sb O (kW I.2.2 ho hp hr ht h1 h8 h9 h2 h3 ha hb h4 h5 hc hg h6 (vi I.2.2.2.2.2.2.2.2.2.2.2.1) (.bool I.2.2.2.2.2.2.2.2.2.2.2.2)) 130)::(sb Y #[vi (W64 (J.2.2.2.2.2.2.2.2.2.2.2.2.2 + 1))] 3)::(sb h0 #[vi 20] 35)::(sb Z zG 27)::Rf128) [] [(4,(pt Z 0)),(5,(pt h0 0)),(6,(pt Y 0)),(7,(pt h7 0)),(8,(pt hh 0))]) (fun kn iv=>?_) ?_
       ·refine Dv [0]<|Dl 1 (fun _ hq=>hq.1.2 1 _ _ rfl)<|D1 2<|AaN zG iv (Acu _) (fun ko iw=>?_);refine D1 3<|Wi #[vi 20] iw (Acu _) (fun kp iy=>?_);refine D1 4<|Ab6 #[vi (W64 (J.2.2.2.2.2.2.2.2.2.2.2.2.2 + 1))] iy (Acu _) (fun kr iz=>?_);exact AcG (by kernel_rfl) ⟨F7,iz,Acu _,fI⟩
       ·rintro f ks ⟨br,j0,cc,⟨_,rfl⟩⟩;refine Ab<|Rt<|Ar<|Ar ?_;obtain rfl:=Aa it;exact⟨.inr ⟨rfl,rfl⟩,br,[hu,sb hh #[vi (W64 (J.2.2.2.2.2.2.2.2.2.2.2.2.2 + 1))] 3,sb h7 #[pt O 0] 128,sb O (kW I.2.2 ho hp hr ht h1 h8 h9 h2 h3 ha hb h4 h5 hc hg h6 (vi I.2.2.2.2.2.2.2.2.2.2.2.1) (.bool I.2.2.2.2.2.2.2.2.2.2.2.2)) 130,sb Y #[vi (W64 (J.2.2.2.2.2.2.2.2.2.2.2.2.2 + 1))] 3,sb h0 #[vi 20] 35,sb Z zG 27],j0,c7.t cc,⟨ho,hp,hr,ht,hu,rfl,c8,Acw c9 cc,ca.mono cc⟩⟩
      ·refine Sc<|Am<|Am ?_;obtain rfl:=Aa iu;exact⟨.inl ⟨rfl,rfl⟩,F7,[hu,sb hh #[vi (W64 (J.2.2.2.2.2.2.2.2.2.2.2.2.2 + 1))] 3,sb h7 #[pt O 0] 128,sb O (kW I.2.2 ho hp hr ht h1 h8 h9 h2 h3 ha hb h4 h5 hc hg h6 (vi I.2.2.2.2.2.2.2.2.2.2.2.1) (.bool I.2.2.2.2.2.2.2.2.2.2.2.2)) 130,sb Y #[vi J.2.1] 3,sb h0 #[vi J.1] 35,sb Z zG 27],c6,c7,⟨ho,hp,hr,ht,hu,rfl,c8,c9,ca⟩⟩
   ·rintro j1;have j2:=T0 dc j1;rintro b6 j3 F6 _ j4 kt ⟨hw,hx,hy,hz,be,rfl,de,df,cd⟩;have bd:HS w0 F0 j3 F6 [(some b6,(.deferred (some []))),be,sb hh #[vi G.1.2.2.2.2.2.2.2.2.2.2.2.2.2] 3,sb h7 #[pt O 0] 128,sb O (kT (.bool G.1.2.2.1) (.bool G.1.2.2.2.1) (.bool G.1.2.2.2.2.1) (sv G.1.2.2.2.2.2.1) (vi G.1.2.2.2.2.2.2.1) (vi G.1.2.2.2.2.2.2.2.1) (vi G.1.2.2.2.2.2.2.2.2.1) (sL hw G.1.2.2.2.2.2.2.2.2.2.1 hx) (sL hy G.1.2.2.2.2.2.2.2.2.2.2.1 hz) h1 h8 h9 h2 h3 ha hb h4 h5 hc hg h6 (vi G.1.2.2.2.2.2.2.2.2.2.2.2.1) (.bool G.1.2.2.2.2.2.2.2.2.2.2.2.2.1)) 130,sb Y #[vi G.1.2.1] 3,sb h0 #[vi G.1.1] 35,sb Z zG 27]:=j4;refine Am<|Ab<|Sq<|sR (rG 5)<|Ld bd.at3<|Vs 2<|Ld bd.at4<|Vs 1<|Nt<|Cd j2 (fun j5 j6=>?_) (fun j5 j7=>?_)
    ·refine Sq<|RD 5 6 [(some b6,(.deferred (some []))),be,sb hh #[vi G.1.2.2.2.2.2.2.2.2.2.2.2.2.2] 3,sb h7 #[pt O 0] 128,sb O (kT (.bool G.1.2.2.1) (.bool G.1.2.2.2.1) (.bool G.1.2.2.2.2.1) (sv G.1.2.2.2.2.2.1) (vi G.1.2.2.2.2.2.2.1) (vi G.1.2.2.2.2.2.2.2.1) (vi G.1.2.2.2.2.2.2.2.2.1) (sL hw G.1.2.2.2.2.2.2.2.2.2.1 hx) (sL hy G.1.2.2.2.2.2.2.2.2.2.2.1 hz) h1 h8 h9 h2 h3 ha hb h4 h5 hc hg h6 (vi G.1.2.2.2.2.2.2.2.2.2.2.2.1) (.bool G.1.2.2.2.2.2.2.2.2.2.2.2.2.1)) 130] [sb Y #[vi G.1.2.1] 3] bd (kP w0 F0 F6 [(some b6,(.deferred (some []))),sb Y #[vi (W64 (G.1.2.2.2.2.2.2.2.2.2.2.2.2.2 + 1))] 3,sb h0 #[vi 20] 35,sb Z zG 27] [{target:=.collected b6,args:=#[]}] [(4,(pt Z 0)),(5,(pt h0 0)),(6,(pt Y 0))]) (fun ku j8=>?_) ?_
     ·refine Dv [0]<|Dl 1 (fun _ hq=>hq.1.2 2 _ _ rfl)<|Dv [2]<|D1 3<|Acm zG j8 (Acu _) (fun kw j9=>?_);refine D1 4<|AaN #[vi 20] j9 (Acu _) (fun ky ja=>?_);refine D1 5<|Wi #[vi (W64 (G.1.2.2.2.2.2.2.2.2.2.2.2.2.2 + 1))] ja (Acu _) (fun kz jb=>?_);exact AcG (by kernel_rfl) ⟨F6,jb.dr1.dr1.dr1.dr1,Acu _,fI⟩
     ·rintro f jc ⟨bf,dg,l0,⟨_,rfl⟩⟩;refine Ab<|Rt<|Ad ?_;have jd:=dg.put (k:=0) rfl (.deferred none);have bs:HS w0 F0 (Dd jc b6 (.deferred none)) bf [sb Y #[vi (W64 (G.1.2.2.2.2.2.2.2.2.2.2.2.2.2 + 1))] 3,sb h0 #[vi 20] 35,sb Z zG 27]:=jd.drop 0;obtain rfl:=Aa j6;exact .inr ⟨b6,rfl,dg.ownAt (k:=0) rfl,.tuple #[.agg zG,vi 20,vi (W64 (G.1.2.2.2.2.2.2.2.2.2.2.2.2.2 + 1))],aK [.cell 4 27,.cell 5 35,.cell 6 3] [.agg zG,vi 20,vi (W64 (G.1.2.2.2.2.2.2.2.2.2.2.2.2.2 + 1))] ⟨Z,0,rfl,aL 27 6 bs.at2,⟨h0,0,rfl,Al (t:=35) (g:=false) (s:=1) (by kernel_rfl) bs.at1 rfl (by decide),⟨Y,0,rfl,Al (t:=3) (g:=false) (s:=1) (by kernel_rfl) bs.at0 rfl (by decide),trivial⟩⟩⟩,.tuple #[.agg zG,vi 20,vi (W64 (G.1.2.2.2.2.2.2.2.2.2.2.2.2.2 + 1))],bf,rfl,bs.clear,⟨none,0,none,0,rfl,Acx,.inl rfl,Acx,.inl rfl⟩⟩
    ·refine Sc<|Ab<|sR (rG 7)<|Ld bd.at3<|Vs 2<|Ld bd.at4<|St7 #[sv G.1.2.2.2.2.2.1,vi G.1.2.2.2.2.2.2.1,vi G.1.2.2.2.2.2.2.2.1,vi G.1.2.2.2.2.2.2.2.2.1,sL hw G.1.2.2.2.2.2.2.2.2.2.1 hx,sL hy G.1.2.2.2.2.2.2.2.2.2.2.1 hz] bd (fun l1 je=>?_);refine St6 #[vi 0] je (fun l2 jf=>?_);refine St5 #[vi 0] jf (fun jg jh=>?_);refine Nt<|Rt ?_;have ji:=AcH cd;obtain⟨dh,di,jj,jk⟩:=jh.fr1 cd;have jl:=di.put (k:=0) rfl (.deferred none);have bt:HS w0 F0 (Dd jg b6 (.deferred none)) dh [sb hh #[vi G.1.2.2.2.2.2.2.2.2.2.2.2.2.2] 3,sb h7 #[pt O 0] 128,sb O (kT (.bool G.1.2.2.1) (.bool G.1.2.2.2.1) (.bool G.1.2.2.2.2.1) (sv G.1.2.2.2.2.2.1) (vi G.1.2.2.2.2.2.2.1) (vi G.1.2.2.2.2.2.2.2.1) (vi G.1.2.2.2.2.2.2.2.2.1) (sL hw G.1.2.2.2.2.2.2.2.2.2.1 hx) (sL hy G.1.2.2.2.2.2.2.2.2.2.2.1 hz) h1 h8 h9 h2 h3 ha hb h4 h5 hc hg h6 (vi G.1.2.2.2.2.2.2.2.2.2.2.2.1) (.bool G.1.2.2.2.2.2.2.2.2.2.2.2.2.1)) 130,sb Y #[vi 0] 3,sb h0 #[vi 0] 35,sb Z #[sv G.1.2.2.2.2.2.1,vi G.1.2.2.2.2.2.2.1,vi G.1.2.2.2.2.2.2.2.1,vi G.1.2.2.2.2.2.2.2.2.1,sL hw G.1.2.2.2.2.2.2.2.2.2.1 hx,sL hy G.1.2.2.2.2.2.2.2.2.2.2.1 hz] 27]:=jl.drop 0;obtain rfl:=Aa j7;exact .inr ⟨b6,rfl,di.ownAt (k:=0) rfl,.tuple #[.agg #[sv G.1.2.2.2.2.2.1,vi G.1.2.2.2.2.2.2.1,vi G.1.2.2.2.2.2.2.2.1,vi G.1.2.2.2.2.2.2.2.2.1,sL hw G.1.2.2.2.2.2.2.2.2.2.1 hx,sL hy G.1.2.2.2.2.2.2.2.2.2.2.1 hz],vi 0,vi 0],aK [.cell 4 27,.cell 5 35,.cell 6 3] [.agg #[sv G.1.2.2.2.2.2.1,vi G.1.2.2.2.2.2.2.1,vi G.1.2.2.2.2.2.2.2.1,vi G.1.2.2.2.2.2.2.2.2.1,sL hw G.1.2.2.2.2.2.2.2.2.2.1 hx,sL hy G.1.2.2.2.2.2.2.2.2.2.2.1 hz],vi 0,vi 0] ⟨Z,0,rfl,aL 27 6 bt.at5,⟨h0,0,rfl,Al (t:=35) (g:=false) (s:=1) (by kernel_rfl) bt.at4 rfl (by decide),⟨Y,0,rfl,Al (t:=3) (g:=false) (s:=1) (by kernel_rfl) bt.at3 rfl (by decide),trivial⟩⟩⟩,.tuple #[.agg #[sv G.1.2.2.2.2.2.1,vi G.1.2.2.2.2.2.2.1,vi G.1.2.2.2.2.2.2.2.1,vi G.1.2.2.2.2.2.2.2.2.1,sL hw G.1.2.2.2.2.2.2.2.2.2.1 hx,sL hy G.1.2.2.2.2.2.2.2.2.2.2.1 hz],vi 0,vi 0],dh,rfl,bt.clear,⟨hw,hx,hy,hz,rfl,de,Acw df jj,ji,jk⟩⟩
   ·rintro jm;have jo:=T1 dc jm;rintro ce dj F6 _ jp l3 ⟨hw,hx,hy,hz,be,rfl,de,df,cd⟩;have dk:HS w0 F0 dj F6 [(some ce,(.deferred (some []))),be,sb hh #[vi G.1.2.2.2.2.2.2.2.2.2.2.2.2.2] 3,sb h7 #[pt O 0] 128,sb O (kT (.bool G.1.2.2.1) (.bool G.1.2.2.2.1) (.bool G.1.2.2.2.2.1) (sv G.1.2.2.2.2.2.1) (vi G.1.2.2.2.2.2.2.1) (vi G.1.2.2.2.2.2.2.2.1) (vi G.1.2.2.2.2.2.2.2.2.1) (sL hw G.1.2.2.2.2.2.2.2.2.2.1 hx) (sL hy G.1.2.2.2.2.2.2.2.2.2.2.1 hz) h1 h8 h9 h2 h3 ha hb h4 h5 hc hg h6 (vi G.1.2.2.2.2.2.2.2.2.2.2.2.1) (.bool G.1.2.2.2.2.2.2.2.2.2.2.2.2.1)) 130,sb Y #[vi G.1.2.1] 3,sb h0 #[vi G.1.1] 35,sb Z zG 27]:=jp;refine Ar<|Ad ?_;have jq:=dk.put (k:=0) rfl (.deferred none);have bu:HS w0 F0 (Dd dj ce (.deferred none)) F6 [be,sb hh #[vi G.1.2.2.2.2.2.2.2.2.2.2.2.2.2] 3,sb h7 #[pt O 0] 128,sb O (kT (.bool G.1.2.2.1) (.bool G.1.2.2.2.1) (.bool G.1.2.2.2.2.1) (sv G.1.2.2.2.2.2.1) (vi G.1.2.2.2.2.2.2.1) (vi G.1.2.2.2.2.2.2.2.1) (vi G.1.2.2.2.2.2.2.2.2.1) (sL hw G.1.2.2.2.2.2.2.2.2.2.1 hx) (sL hy G.1.2.2.2.2.2.2.2.2.2.2.1 hz) h1 h8 h9 h2 h3 ha hb h4 h5 hc hg h6 (vi G.1.2.2.2.2.2.2.2.2.2.2.2.1) (.bool G.1.2.2.2.2.2.2.2.2.2.2.2.2.1)) 130,sb Y #[vi G.1.2.1] 3,sb h0 #[vi G.1.1] 35,sb Z zG 27]:=jq.drop 0;obtain rfl:=Aa jo;exact .inr ⟨ce,rfl,dk.ownAt (k:=0) rfl,.tuple #[.agg zG,vi G.1.1,vi G.1.2.1],aK [.cell 4 27,.cell 5 35,.cell 6 3] [.agg zG,vi G.1.1,vi G.1.2.1] ⟨Z,0,rfl,aL 27 6 bu.at6,⟨h0,0,rfl,Al (t:=35) (g:=false) (s:=1) (by kernel_rfl) bu.at5 rfl (by decide),⟨Y,0,rfl,Al (t:=3) (g:=false) (s:=1) (by kernel_rfl) bu.at4 rfl (by decide),trivial⟩⟩⟩,.tuple #[.agg zG,vi G.1.1,vi G.1.2.1],F6,rfl,bu.clear,⟨none,0,none,0,rfl,Acx,.inl rfl,Acx,.inl rfl⟩⟩
def Jn(N:Nat)(I:(List Int))(x1:(List Int)):Int->Option (A2 Bool Int):=fun G=>
 (bif(decide (G < (I.length:Int)))then none else some (.done G))
def LG(N:Nat)(G:(List Int))(I:(List Int)):Option Bool:=
 (bif((G.length:Int)!=(I.length:Int))then none else((AF (Jn N G I) N 0).bind fun o=>o.k (fun r=>some r) (fun h0=>some true)))
theorem Pi(N:Nat)(w0:World)(F0:Mem)(hF:AcR w0 F0)(G:(List Int))(O:AcQ)(Y:Nat)(hr:LC G.length Y)(ht:SlA AO F0 O G)(I:(List Int))(Z:AcQ)(h0:Nat)(hu:LC I.length h0)(hw:SlA AO F0 Z I)(r:Bool)(h:LG N G I=some r):
  cA 57 [sL O G Y,sL Z I h0] w0 F0 (.bool r):=by
 have h3:=Acv hF;refine Go 26 Tryz.func57<|sR [0]<|Vs 1<|Nss<|sR (rG 5)<|Vs 5<|Nt<|Cd h (fun h4 h5=>?_) (fun h4 h6=>?_)
 ·cases h5
 ·refine Sc<|Ab<|Sq<|sR [0]<|Vs 1<|Nt ?_;obtain⟨h1,h7,h8⟩:=bS h6;refine AcA (fun f w=>∃(h2:Int)(F2:_),h1=.done h2/\HS w0 F0 w F2 []/\Acs F0 F2/\FI f [] []) ?_ ?_
  ·refine Bk<|Acr (by kernel_rfl) (fun m f w=>∃(J:Int)(F1:Mem),AF (Jn N G I) m J=some h1/\HS w0 F0 w F1 []/\Acs F0 F1/\FI f [] [(0,(sL O G Y)),(1,(sL Z I h0)),(5,(vi J))]) N ⟨0,F0,h7,h3,Acu _,fI⟩ ?_;rintro hx f hy ⟨J,F1,h9,ha,hb,⟨_,rfl⟩⟩;obtain⟨hz,b0,rfl,hc,hg⟩:=AB h9;refine Sq<|sR (rG 4)<|Vs 4<|Nt<|Cd hc (fun hh hm=>?_) (fun hh hn=>?_)
   ·cases hm
   ·refine Ex<|Ak<|Ak<|Av rfl ?_;have ho:=AA hn hg;exact .inl ⟨rfl,J,F1,ho,ha,hb,fI⟩
  ·rintro f b1 ⟨h2,F2,rfl,hp,b2,⟨_,rfl⟩⟩;have hq:=AW h8;refine Ab<|sR [0]<|Vs 1<|Nt<|Rt ?_;obtain rfl:=Aa hq;exact Re [bT] hp rfl
def MT(N:Nat)(O Y:Log)(h0:Bool):Int->Option (A2 Bool Int):=fun J=>
 (bif(decide (J < (O.Lines.length:Int)))then(((idx O.Lines J).bind fun G=>((idx Y.Lines J).bind fun I=>some (!((G.Num==I.Num)&&((G.Khz==I.Khz)&&((G.Mode==I.Mode)&&((G.Minute==I.Minute)&&((G.Call==I.Call)&&(((G.Sent.Report==I.Sent.Report)&&((G.Sent.Serial==I.Sent.Serial)&&((G.Sent.Zone==I.Sent.Zone)&&true)))&&(((G.Got.Report==I.Got.Report)&&((G.Got.Serial==I.Got.Serial)&&((G.Got.Zone==I.Got.Zone)&&true)))&&true)))))))))).bind fun Z=>(bif Z then none else some (.next (W64 (J + 1)))))else some (.done J))
def Q4(N:Nat)(G I:Log):Option Bool:=
 (bif(G.Call !=I.Call)then none else(bif(G.Category !=I.Category)then none else(bif(G.Power !=I.Power)then none else(bif(G.Claimed !=I.Claimed)then none else((LG N G.Jumps I.Jumps).bind fun J=>bif(!J)then none else(bif((G.Lines.length:Int)!=(I.Lines.length:Int))then some false else((AF (MT N G I J) N 0).bind fun o=>o.k (fun r=>some r) (fun h0=>some true))))))))
theorem T7(N:Nat)(w0:World)(F0:Mem)(hF:AcR w0 F0)(G:Log)(Y:AcQ)(Z:Nat)(ht:LC G.Jumps.length Z)(hu:SlA AO F0 Y G.Jumps)(h6:AcQ)(h7:Nat)(ce:LC G.Lines.length h7)(hw:SlA AR F0 h6 G.Lines)(I:Log)(h0:AcQ)(h1:Nat)(hx:LC I.Jumps.length h1)(hy:SlA AO F0 h0 I.Jumps)(h8:AcQ)(h9:Nat)(cf:LC I.Lines.length h9)(hz:SlA AR F0 h8 I.Lines)(r:Bool)(h:Q4 N G I=some r):
  cA 35 [.agg (AM G Y Z h6 h7),.agg (AM I h0 h1 h8 h9)] w0 F0 (.bool r):=by
 have b0:=Acv hF;refine Go 67 Tryz.func35<|sR [0,1,2]<|Bx' 27 (AM G Y Z h6 h7) b0 (fun hb cg b1=>?_);refine Bx' 27 (AM I h0 h1 h8 h9) b1 (fun hc b2 J=>?_);refine Vs 1<|Nss<|sR (rG 43)<|Vs 1<|Ld J.at1<|Vs 1<|Ld J.at0<|Vs 2<|Sp h (fun h2 b3=>?_) (fun h2 b4=>?_)
 ·cases b3
 ·refine Vgs h2 1<|Lg h2 J.at1<|Vgs h2 1<|Lg h2 J.at0<|Vgs h2 1<|Pk0 h2<|Vs 1<|Sp b4 (fun h3 b5=>?_) (fun h3 b6=>?_)
  ·cases b5
  ·refine Vgs h3 1<|Lg h3 J.at1<|Vgs h3 1<|Lg h3 J.at0<|Vgs h3 1<|Pk0 h3<|Vs 1<|Sp b6 (fun h4 b7=>?_) (fun h4 b8=>?_)
   ·cases b7
   ·refine Vgs h4 1<|Lg h4 J.at1<|Vgs h4 1<|Lg h4 J.at0<|Vgs h4 1<|Pk0 h4<|Vs 1<|Sp b8 (fun O b9=>?_) (fun O ba=>?_)
    ·cases b9
    ·refine Vgs O 1<|Lg O J.at1<|Vgs O 1<|Lg O J.at0 ?_;obtain⟨bb,bc,bd⟩:=bS ba;refine Cg O (cO 57) J (Pi N b2 F0 J.pers G.Jumps Y Z ht hu I.Jumps h0 h1 hx hy _ bc) ?_;rintro _ F1 ch hg hn rfl;refine Vgs O 1<|Pk0 O<|Vs 1<|Sp bd (fun h5 be=>?_) (fun h5 bf=>?_)
     ·cases be
     ·refine Vgs h5 1<|Lg h5 hg.at1<|Vgs h5 2<|Lg h5 hg.at0<|Vgs h5 2<|Pk0 h5<|Nt<|Cd bf (fun bg bh=>?_) (fun bg bi=>?_)
      ·refine sR [0]<|Vs 1<|Nt<|Rt<|Ad ?_;obtain rfl:=Aa bh;exact Re [bF] hg rfl
      ·refine Sc<|Ab<|Sq<|sR [0]<|Vs 1<|Nt ?_;obtain⟨ho,bj,bk⟩:=bS bi;refine AcA (fun f w=>∃(hp:Int)(F3:_),ho=.done hp/\HS w0 F0 w F3 []/\Acs F1 F3/\FI f [] []) ?_ ?_
       ·refine Bk<|Acr (by kernel_rfl) (fun m f w=>∃(ha:Int)(F2:Mem),AF (MT N G I bb) m ha=some ho/\HS w0 F0 w F2 [sb hc (AM I h0 h1 h8 h9) 27,sb hb (AM G Y Z h6 h7) 27]/\Acs F1 F2/\FI f [] [(2,(pt hb 0)),(3,(pt hc 0)),(5,(vi ha))]) N ⟨0,F1,bj,hg,Acu _,fI⟩ ?_;rintro ci f cj ⟨ha,F2,bl,hm,hh,⟨_,rfl⟩⟩;obtain⟨bm,cl,rfl,bn,hr⟩:=AB bl;refine Sq<|sR (rG 5)<|Vs 2<|Ld hm.at1<|Vs 2<|Nt<|Cd bn (fun bo bp=>?_) (fun bo bq=>?_)
        ·refine Sc<|Ab<|Sq<|Bk<|Sq ?_;obtain⟨br,bs,bt⟩:=bS bp;refine RD 11 11 [sb hc (AM I h0 h1 h8 h9) 27,sb hb (AM G Y Z h6 h7) 27] [] hm (kP w0 F0 F2 [sb hc (AM I h0 h1 h8 h9) 27,sb hb (AM G Y Z h6 h7) 27] [] [(2,(pt hb 0)),(3,(pt hc 0)),(5,(vi ha)),(66,(.bool br))]) (fun cm bu=>?_) ?_
         ·refine Dv [0]<|Dl 1 (fun _ hq=>hq.1.2 1 _ _ rfl)<|Dv [2] ?_;obtain⟨cn,bv,bw⟩:=bS bs;obtain⟨bx,hx92'⟩:=Ag bv;obtain⟨co,cp,cq,cr,ct,rfl,hF101,hE102⟩:=AcB (Acw hw (hn.t hh)) hx92';have bz:=hE102 _ _ hx92';refine Di 3 bx<|Dx 4 0 (fun _ hq=>hq.1.1 _ _ hF101) bz<|Dv [5]<|Dl 6 (fun _ hq=>hq.1.2 0 _ _ rfl)<|Dv [7] ?_;obtain⟨cu,c0,c1⟩:=bS bw;obtain⟨c3,hx106'⟩:=Ag c0;obtain⟨cv,cw,cx,cy,cz,rfl,hF115,hE116⟩:=AcB (Acw hz (hn.t hh)) hx106';have c4:=hE116 _ _ hx106';refine Di 8 c3<|Dx 9 0 (fun _ hq=>hq.1.1 _ _ hF115) c4<|Dv [10] ?_;obtain rfl:=Aa c1;exact AcG (by kernel_rfl) ⟨F2,bu,Acu _,fI⟩
         ·rintro f d0 ⟨F4,c5,c6,⟨_,rfl⟩⟩;refine Ab<|Cd bt (fun c7 c8=>?_) (fun c7 c9=>?_)
          ·cases c8
          ·refine Sc<|Am<|Ab<|Rg [0,1,2]<|Vs 3<|Aco ?_;have ca:=Ay c9 hr;exact⟨bm,xF _,W64 (ha + 1),F4,ca,c5,hh.t c6,fI⟩
        ·refine Ex<|Ak<|Ak<|Av rfl ?_;have cb:=AA bq hr;exact .inl ⟨rfl,ha,F2,cb,hm.dr0.dr0,hh,fI⟩
       ·rintro f d1 ⟨hp,F3,rfl,cc,d2,⟨_,rfl⟩⟩;have cd:=AW bk;refine Ab<|sR [0]<|Vs 1<|Nt<|Rt ?_;obtain rfl:=Aa cd;exact Re [bT] cc rfl
def D8(F:Mem)(v:Value)(L:Own):Option Ao->Prop
 | none=>v=.tuple #[.pointer none,.int .i64 2]/\L=[]
 | some m=>∃(b:Nat)(am_3:AcQ)(nm_3:Nat)(mbm_4:Nat)(em_4:oO)(mbm_5:Nat)(em_5:oO),v=.tuple #[pt b 0,.int .i64 0]/\L=[sb b (rD m.o_ am_3 m.lines_ nm_3 mbm_4 mbm_5) 148,em_4,em_5]/\LC m.lines_.length nm_3/\SlA AJ F am_3 m.lines_/\BJ AH AO F mbm_4 m.known_ em_4/\BJ AJ AC F mbm_5 m.read_ em_5
theorem Gw{F:Mem}{v:Value}{L:Own}(h:D8 F v L none):v=.tuple #[.pointer none,.int .i64 2]/\L=[]:=h
theorem Gv{F:Mem}{v:Value}{L:Own}{m:Ao}(h:D8 F v L (some m)):∃(b:Nat)(am_3:AcQ)(nm_3:Nat)(mbm_4:Nat)(em_4:oO)(mbm_5:Nat)(em_5:oO),v=.tuple #[pt b 0,.int .i64 0]/\L=[sb b (rD m.o_ am_3 m.lines_ nm_3 mbm_4 mbm_5) 148,em_4,em_5]/\LC m.lines_.length nm_3/\SlA AJ F am_3 m.lines_/\BJ AH AO F mbm_4 m.known_ em_4/\BJ AJ AC F mbm_5 m.read_ em_5:=h
theorem Mi{F:Mem}{v:Value}{L:Own}(h:v=.tuple #[.pointer none,.int .i64 2]/\L=[]):D8 F v L none:=h
theorem Mh{F:Mem}{v:Value}{L:Own}{m:Ao}(h:∃(b:Nat)(am_3:AcQ)(nm_3 mbm_4:Nat)(em_4:oO)(mbm_5:Nat)(em_5:oO),v=.tuple #[pt b 0,.int .i64 0]/\L=[sb b (rD m.o_ am_3 m.lines_ nm_3 mbm_4 mbm_5) 148,em_4,em_5]/\LC m.lines_.length nm_3/\SlA AJ F am_3 m.lines_/\BJ AH AO F mbm_4 m.known_ em_4/\BJ AJ AC F mbm_5 m.read_ em_5):D8 F v L (some m):=h
def Dp(N:Nat)(x0:Ac)(x1:AcP):(List AcP)->(AcP×Bool)->Option (List AcP):=fun G I=>
 (((CD G [I.1]).bind fun J=>some J).bind fun O=>some O)
def Fw(N:Nat)(G:Ac)(I:AcP):Option (Option Ao):=
 ((Ek N (fun st x=>((Dp N G I) st x).map fun t=>(true,t)) I ([]:List AcP)).bind fun J=>bif((decide ((I.length:Int) > 65536))||(decide ((J.length:Int) > 400)))then some none else some (some ({o_:=(lY G),lines_:=J,known_:=([]:List (Ae×Int)),read_:=([]:List (AcP×Ax))}:Ao)))
theorem I6(N:Nat)(w0:World)(F0:Mem)(hF:AcR w0 F0)(hG:BH F0)(G:Ac)(x1:AcP)(r:(Option Ao))(h:Fw N G x1=some r):
  cP 108 (lA [.agg (Ah G),sv x1]) w0 (Sr w0 F0 fun F' v L'=>D8 F' v L' r):=by
 have ba:=Acv hF;refine To (n:=39) (c:=Sj Tryz.f108) Tryz.func108 (by kernel_rfl) (by kernel_rfl) (by kernel_rfl)<|sR [0,1,2]<|Bx' 23 (Ah G) ba (fun hb cr hw=>?_);refine Vs 2<|nR (rG 7)<|Ld hw.at0<|RWP.makeMap (t:=145) (K:=AH) (T:=AO) (dst:=some 9) (ty:=145) (g:=none) (by kernel_rfl) rfl hw (fun J Y bb (bc:HS w0 F0 bb F0 [Y,sb hb (Ah G) 23]) bd=>?_);refine RWP.makeMap (t:=146) (K:=AJ) (T:=AC) (dst:=some 10) (ty:=146) (g:=none) (by kernel_rfl) rfl bc (fun O Z be (bf:HS w0 F0 be F0 [Z,Y,sb hb (Ah G) 23]) bg=>?_);refine Vs 1<|Bx' 148 #[.bool G.Report,.bool G.Serial,.bool G.Zone,sN AcP,.map (some J),.map (some O)] bf (fun I ct bh=>?_);refine Al' 138 #[.pointer none] bh (fun h0 cu bi=>?_);refine St0 #[pt I 0] bi (fun bj hx=>?_);refine Nss<|sR [0,1]<|Vs 1<|RWP.callO (dst:=some 14) (ty:=132) (g:=none) (by kernel_rfl) rfl (f0:=.func 105) (aos:=#[.tmp 13]) (ats:=#[9]) (fid:=105) (first:=#[]) (cap:=#[]) (args:=[sv x1]) rfl (cO 105) rfl hx (OI bj F0 hx.pers x1) ?_;rintro _ F1 bk _ bl ho ⟨hc,rfl,rfl⟩;have bm:HS w0 F0 bk F1 [sb hc #[sv x1] 9,sb h0 #[pt I 0] 138,sb I #[.bool G.Report,.bool G.Serial,.bool G.Zone,sN AcP,.map (some J),.map (some O)] 148,Z,Y,sb hb (Ah G) 23]:=bl;refine Nt<|Bk ?_;have bn:=bm.dr5.dummy (oc #[] 0);have bo:=bn.pk5.pk5.pk5.pk5.pk4.pk5;obtain⟨h7,bp,bq⟩:=bS h;refine CWP.rangeFunc (enc:=V7) (ok:=Ys) (px:=Yh) (m:=fun{_} y s=>Ek N y x1 s) (L:=[(none,.cells #[] 0 (0,0)),sb h0 #[pt I 0] 138,sb I #[.bool G.Report,.bool G.Serial,.bool G.Zone,sN AcP,.map (some J),.map (some O)] 148,Z,Y]) (B:=[sb hc #[sv x1] 9]) (ps:=[15,16]) (by kernel_rfl) (gf:=169) (cap:=[pt hc 0]) rfl (cO 169) rfl (by kernel_rfl) (by kernel_rfl) (fun _=>rfl) bo (Mb N F1 (hG.mono ho) x1 hc) (fun st x=>((Dp N G x1) st x).map fun t=>(true,t)) (fun(h5:(List AcP)) (F2:Mem) (Lq:Own)=>∃(h2:AcQ)(h3:Nat)(h4:oO),Lq=[h4,sb h0 #[pt I 0] 138,sb I (rD G h2 h5 h3 J O) 148,Z,Y]/\Aq AJ 9 F2 h2 h3 h5 h4) ?_ (s:=([]:List AcP)) (r:=h7) ?_ bp (fun _ _ _ h=>(UP h).1) ?_ ?_
 ·rintro s F F' L ⟨h2,h3,h4,rfl,hp⟩ hl;exact⟨h2,h3,h4,rfl,hp.mono hl⟩
 ·exact⟨none,0,(none,.cells #[] 0 (0,0)),rfl,AcI AJ 9 F1 _⟩
 ·rintro cv h5 hr br F2 _ Rf68 ⟨_,cw⟩ cx cy ⟨h2,h3,h4,rfl,hp⟩ bs bt;have bu:=(UP bt).2;have bv:HS w0 F0 br F2 (h4::(sb h0 #[pt I 0] 138)::(sb I (rD G h2 h5 h3 J O) 148)::Z::Y::Rf68):=bs;refine Rg [0]<|Vs 1<|Aco<|⟨rfl,F2,[h4,sb h0 #[pt I 0] 138,sb I (rD G h2 h5 h3 J O) 148,Z,Y],bv,fun bw Rf77 bx=>?_⟩;have bz:HS w0 F0 bw F2 (h4::(sb h0 #[pt I 0] 138)::(sb I (rD G h2 h5 h3 J O) 148)::Z::Y::Rf77):=bx;refine Bk ?_;obtain⟨ht,c0,c1⟩:=bS bu;refine RD 10 11 [sb h0 #[pt I 0] 138,Z,Y] [sb I (rD G h2 h5 h3 J O) 148] bz (fun f w=>∃(F4:_)(h8:AcQ)(h9:_)(ha:_),HS w0 F0 w F4 (ha::(sb h0 #[pt I 0] 138)::(sb I (rD G h8 ht h9 J O) 148)::Z::Y::Rf77)/\Acs F2 F4/\FI f [] [(2,(pt hb 0)),(6,(pt h0 0)),(9,(.map (some J))),(10,(.map (some O))),(11,(.agg #[.bool G.Report,.bool G.Serial,.bool G.Zone,sN AcP,.map (some J),.map (some O)])),(12,(pt I 0))]/\Aq AJ 9 F4 h8 h9 ht ha) (fun cz c3=>?_) ?_
  ·refine Dl 0 (fun _ hq=>hq.1.2 0 _ _ rfl) ?_;refine Dl 1 (fun _ hq=>hq.1.2 0 _ _ rfl)<|Dv [2,3]<|Dl 4 (fun _ hq=>(hq.2 rfl).2 0 _ _ rfl)<|Dv [5]<|D1 6<|DBs 9 [sv hr.1] c3 (Acu _) (fun hy d0 hz=>?_);have c4:Aq AJ 9 F2 (sA hy) 1 [hr.1] (some hy,.cells (lA [sv hr.1]) 9 (0,0)):=AcJ ⟨rfl,rfl⟩ (by simp);refine D1 7 ?_;obtain⟨c5,c6,c7⟩:=bS c0;refine Ab7 PR hz hp (hz.rd0 c4) c6 (Acu _) (fun b0 b1 c8 d1 b2 c9=>?_);refine D1 8<|AcD (l':=[tt,tt,tt,tt,tt,tt,tt,tt,tt,ff,ff]) (zd:=false) (by kernel_rfl) (by kernel_rfl) (dst:=some 25) (ty:=0) (g:=none) (by kernel_rfl) rfl (GJ (x:=.tmp 17) (a:=⟨I,0,none⟩) rfl) (BI b2 (Acu _) (by simp) (fun _=>by simp))<|Dv [9]<|D1 10<|AaO (rD G b0 c5 b1 J O) b2 (Acu _) (fun d2 ca=>?_);obtain rfl:=Aa c7;exact AcG (by kernel_rfl) ⟨F2,b0,b1,c8,ca.dr0,Acu _,fI,c9⟩
  ·rintro f d3 ⟨F4,h8,h9,ha,cb,cc,⟨_,rfl⟩,cd⟩;refine Am ?_;obtain rfl:=Aa c1;exact⟨rfl,F4,[ha,sb h0 #[pt I 0] 138,sb I (rD G h8 ht h9 J O) 148,Z,Y],cb,cc,⟨h8,h9,ha,rfl,cd⟩⟩
 ·rintro h6 ce F3 _ cf b3 ⟨hg,hh,b4,rfl,b5⟩;have hm:HS w0 F0 ce F3 [(some h6,(.deferred (some []))),b4,sb h0 #[pt I 0] 138,sb I (rD G hg h7 hh J O) 148,Z,Y]:=cf;refine Am<|Ab<|Sq<|sR (rG 11)<|Acz (kP w0 F0 F3 [(some h6,(.deferred (some []))),b4,sb h0 #[pt I 0] 138,sb I (rD G hg h7 hh J O) 148,Z,Y] [{target:=.collected h6,args:=#[]}] [(6,(pt h0 0)),(37,(.bool ((decide ((x1.length:Int) > 65536))||(decide ((h7.length:Int) > 400)))))]) ?_ ?_
  ·refine Vs 4<|Acy (decide ((x1.length:Int) > 65536)) (fun h1=>?_) (fun h1=>?_)
   ·refine Ss h1 6<|Pk1 h1 ?_;exact Aco ⟨rfl,F3,hm,Acu _,fJ ⟨rfl,congrArg Value.bool (Ej h1 rfl),trivial⟩⟩
   ·refine Lg h1 hm.at2 ?_;refine Vgs h1 2<|Lg h1 hm.at3<|Vgs h1 2<|Pk0 h1 ?_;exact Aco ⟨rfl,F3,hm,Acu _,fJ ⟨rfl,congrArg Value.bool (Ch h1 rfl),trivial⟩⟩
  ·rintro f b6 ⟨F5,hu,hn,⟨_,rfl⟩⟩;refine Ab<|Cd bq (fun cg ch=>?_) (fun cg ci=>?_)
   ·refine sR [0,1]<|Vs 2<|Nt<|Rt<|Ad ?_;have b7:=hu.dr1.dr1.dr1.dr1.dr1;have cj:=b7.put (k:=0) rfl (.deferred none);have cl:HS w0 F0 (Dd b6 h6 (.deferred none)) F5 []:=cj.drop 0;obtain rfl:=Aa ch;exact .inr ⟨h6,rfl,b7.ownAt (k:=0) rfl,.tuple #[.pointer none,vi 2],aK [.tmp 4,.tmp 5] [.pointer none,vi 2] ⟨rfl,⟨rfl,trivial⟩⟩,.tuple #[.pointer none,vi 2],F5,_,rfl,cl,Mi ⟨rfl,rfl⟩⟩
   ·refine Sc<|Ab<|sR [0,1,2]<|Ld hu.at2<|Vs 2<|Nt<|Rt ?_;have cm:=AcH (b5.mono hn);obtain⟨F6,cn,b8,co⟩:=hu.fr1 (b5.mono hn);have b9:=cn.dr1.pk2.pk3.pk3.pk3;have cp:=b9.put (k:=0) rfl (.deferred none);have cq:HS w0 F0 (Dd b6 h6 (.deferred none)) F6 [sb I (rD G hg h7 hh J O) 148,Y,Z]:=cp.drop 0;obtain rfl:=Aa ci;exact .inr ⟨h6,rfl,b9.ownAt (k:=0) rfl,.tuple #[pt I 0,vi 0],aK [.tmp 4,.tmp 5] [pt I 0,vi 0] ⟨rfl,⟨rfl,trivial⟩⟩,.tuple #[pt I 0,vi 0],F6,_,rfl,cq,Mh ⟨I,hg,hh,J,Y,O,Z,rfl,rfl,cm,co,bd.mono (((ho.t b3).trans hn).trans b8),bg.mono (((ho.t b3).trans hn).trans b8)⟩⟩
def IR(N:Nat):Option Ae:=
 some ({at_:=0,stage_:=0,num_:=0,minute_:=(-1)}:Ae)
theorem KU(N:Nat)(w0:World)(F0:Mem)(hF:AcR w0 F0)(r:Ae)(h:IR N=some r):
  cA 110 [] w0 F0 (.agg (Ap r)):=by
 have I:=Acv hF;refine Go 2 Tryz.func110<|sR [0]<|Al' 143 #[vi 0,vi 0,vi 0,vi 0] I (fun J h0 O=>?_);refine nR [0,1]<|Vs 1<|St0 #[vi 0,vi 0,vi 0,vi (-1)] O (fun h1 G=>?_);refine Nt<|Rt ?_;obtain rfl:=Aa h;exact⟨rfl,.agg #[vi 0,vi 0,vi 0,vi (-1)],aK [.cell 0 143] [.agg #[vi 0,vi 0,vi 0,vi (-1)]] ⟨J,0,rfl,aL 143 4 G.at0,trivial⟩,.agg #[vi 0,vi 0,vi 0,vi (-1)],F0,rfl,G.clear,rfl⟩
def Bx(N:Nat)(G:Int):Option AcP:=
 ((idx ([([]:AcP),([67,65,84,69,71,79,82,89,32,49]:AcP),([80,79,87,69,82,32,49]:AcP),([67,76,65,73,77,69,68,32,48]:AcP),([74,85,77,80,83]:AcP),([69,78,68]:AcP)]:List AcP) G).bind fun I=>some I)
theorem Dz(N:Nat)(w0:World)(F0:Mem)(hF:AcR w0 F0)(G:Int)(r:AcP)(h:Bx N G=some r):
  cA 121 [vi G] w0 F0 (sv r):=by
 have J:=Acv hF;refine Go 6 Tryz.func121<|sR [0]<|Vs 1<|nR (rG 4)<|V 3 219 (Nh (t:=219) (parts:=#[(1,(.const (sv ([67,65,84,69,71,79,82,89,32,49]:AcP)))),(2,(.const (sv ([80,79,87,69,82,32,49]:AcP)))),(3,(.const (sv ([67,76,65,73,77,69,68,32,48]:AcP)))),(4,(.const (sv ([74,85,77,80,83]:AcP)))),(5,(.const (sv ([69,78,68]:AcP))))]) (vs:=[(1,(sv ([67,65,84,69,71,79,82,89,32,49]:AcP))),(2,(sv ([80,79,87,69,82,32,49]:AcP))),(3,(sv ([67,76,65,73,77,69,68,32,48]:AcP))),(4,(sv ([74,85,77,80,83]:AcP))),(5,(sv ([69,78,68]:AcP)))]) rfl (cs:=[sE,sv ([67,65,84,69,71,79,82,89,32,49]:AcP),sv ([80,79,87,69,82,32,49]:AcP),sv ([67,76,65,73,77,69,68,32,48]:AcP),sv ([74,85,77,80,83]:AcP),sv ([69,78,68]:AcP)]) (by kernel_rfl))<|Vs 1 ?_;obtain⟨I,O,Y⟩:=bS h;refine V 5 9 (Ws (t:=219) (E:=9) (len:=6) (x:=.tmp 3) (y:=.tmp 4) (k:=.i64) (i:=G) (cs:=([([]:AcP),([67,65,84,69,71,79,82,89,32,49]:AcP),([80,79,87,69,82,32,49]:AcP),([67,76,65,73,77,69,68,32,48]:AcP),([74,85,77,80,83]:AcP),([69,78,68]:AcP)]:List AcP).map (fun x:AcP=>Value.string ⟨x.toArray⟩)) (v:=sv I) rfl rfl (by kernel_rfl) (by kernel_rfl) rfl (U2 (f:=(fun x:AcP=>Value.string ⟨x.toArray⟩)) O))<|Vs 1<|Nt<|Rt ?_;obtain rfl:=Aa Y;exact Re [sv I] J rfl
def Hp(N:Nat)(G:Log)(J:AcP):Option (Log×Bool):=
 ((strings_CutPrefix N J ([67,65,76,76,32]:AcP)).bind fun I=>((bif I.2 then((HA N I.1).bind fun O=>some O)else some false).bind fun Y=>some (({Call:=I.1,Category:=G.Category,Power:=G.Power,Claimed:=G.Claimed,Jumps:=G.Jumps,Lines:=G.Lines}:Log),Y)))
theorem Ql(N:Nat){wb w0:World}{Fb F0:Mem}{Lf:Own}(hG:BH F0)(h0:Nat)(G:Log)(J:AcQ)(O:Nat)(Y:AcQ)(Z:Nat)(hb:LC G.Jumps.length O)(hc:SlA AO F0 J G.Jumps)(hg:LC G.Lines.length Z)(hh:SlA AR F0 Y G.Lines)(x1:AcP)(h5:HS wb Fb w0 F0 ((sb h0 (AM G J O Y Z) 27)::Lf))(r:(Log×Bool))(h:Hp N G x1=some r):
  cP 153 (lA [pt h0 0,sv x1]) w0 (Hm wb Fb F0 fun F' v L'=>∃(h6:AcQ)(h7:Nat)(h8:AcQ)(h9:Nat),v=(.bool r.2)/\L'=(sb h0 (AM r.1 h6 h7 h8 h9) 27)::Lf/\LC r.1.Jumps.length h7/\SlA AO F' h6 r.1.Jumps/\LC r.1.Lines.length h9/\SlA AR F' h8 r.1.Lines):=by
 refine Go 21 Tryz.func153<|sR [0]<|Vs 1<|nR (rG 7)<|Vs 1 ?_;obtain⟨h2,hm,hn⟩:=bS h;refine Cl' (cO 189) h5 (Bz N w0 F0 h5.pers x1 ([67,65,76,76,32]:AcP) _ hm) ?_;rintro _ F1 b1 ho h1 rfl;refine Vs 5<|nR (rG 5)<|Vs 4<|St0 #[sv h2.1,vi G.Category,vi G.Power,vi G.Claimed,sL J G.Jumps O,sL Y G.Lines Z] ho (fun hp h3=>?_);refine nR (rG 6) ?_;obtain⟨ha,hq,hr⟩:=bS hn;refine Acz (kP wb Fb F1 ((sb h0 #[sv h2.1,vi G.Category,vi G.Power,vi G.Claimed,sL J G.Jumps O,sL Y G.Lines Z] 27)::Lf) [] [(4,(.bool ha))]) ?_ ?_
 ·refine Vs 2<|Sp hq (fun I ht=>?_) (fun I hu=>?_)
  ·refine Vgs I 1 ?_;obtain⟨b2,hw,hx⟩:=bS ht;refine Cg I Hj h3 (Ib N hp F1 h3.pers (hG.mono h1) h2.1 _ hw) ?_;rintro _ F3 b3 hy hz rfl;refine Pk1 I<|Vs 1 ?_;obtain rfl:=Aa hx;exact Aco ⟨rfl,F3,hy,hz,fI⟩
  ·refine Ss I 2<|Pk0 I<|Vs 1 ?_;obtain rfl:=Aa hu;exact Aco ⟨rfl,F1,h3,Acu _,fI⟩
 ·rintro f b4 ⟨F2,b0,h4,⟨_,rfl⟩⟩;refine Ab<|Rt ?_;obtain rfl:=Aa hr;exact ReB [.bool ha] b0 (h1.t h4) ⟨J,O,Y,Z,rfl,rfl,hb,Acw hc (h1.t h4),hg,Acw hh (h1.t h4)⟩
def B0(N:Nat)(O:Log)(x1:AcP)(h0:(List AcP))(I:List AcP):(List Int×Int)->Option (A2 (Log×Bool) (List Int×Int)):=fun G=>
 (bif(decide (G.2 < (I.length:Int)))then((idx I G.2).bind fun Y=>((AU N Y).bind fun J=>bif(!J.2)then some (.ret (O,false))else((CD G.1 [J.1]).bind fun Z=>some (.next (Z,(W64 (G.2 + 1)))))))else some (.done (G.1,G.2)))
def GU(N:Nat)(G:Log)(J:AcP):Option (Log×Bool):=
 ((strings_Split N J ([32]:AcP)).bind fun I=>((sub I 1 (I.length:Int)).bind fun Y=>((AF (B0 N G J I Y) N (([]:List Int),0)).bind fun o=>o.k (fun r=>some r) (fun O=>(((idx I 0).bind fun Z=>bif(Z==([74,85,77,80,83]:AcP))then((DL N O.1).bind fun h0=>some h0)else some false).bind fun h1=>some (({Call:=G.Call,Category:=G.Category,Power:=G.Power,Claimed:=G.Claimed,Jumps:=O.1,Lines:=G.Lines}:Log),h1))))))
theorem Pj(N:Nat){wb w0:World}{Fb F0:Mem}{Lf:Own}(hG:BH F0)(I:Nat)(G:Log)(h5:AcQ)(h6:Nat)(J:AcQ)(O:Nat)(be:LC G.Jumps.length h6)(bf:SlA AO F0 h5 G.Jumps)(hw:LC G.Lines.length O)(hx:SlA AR F0 J G.Lines)(x1:AcP)(hy:HS wb Fb w0 F0 ((sb I (AM G h5 h6 J O) 27)::Lf))(r:(Log×Bool))(h:GU N G x1=some r):
  cP 159 (lA [pt I 0,sv x1]) w0 (Hm wb Fb F0 fun F' v L'=>∃(hz:AcQ)(b0:Nat)(b1:AcQ)(b2:Nat),v=(.bool r.2)/\L'=(sb I (AM r.1 hz b0 b1 b2) 27)::Lf/\LC r.1.Jumps.length b0/\SlA AO F' hz r.1.Jumps/\LC r.1.Lines.length b2/\SlA AR F' b1 r.1.Lines):=by
 refine Go 44 Tryz.func159<|sR [0]<|Vs 1<|nR [0,1,2]<|Vs 1 ?_;obtain⟨h7,bg,bh⟩:=bS h;refine Cl' (cO 93) hy (EB N w0 F0 hy.pers hG x1 ([32]:AcP) _ bg) ?_;rintro _ F1 d6 bi h3 ⟨hm,hn,rfl,bj,b3⟩;refine Vs 1<|nR [0]<|Vs 1<|Nss<|sR (rG 4)<|Vs 1 ?_;obtain⟨h9,bk,bl⟩:=bS bh;obtain⟨bm,bn,d7,bo,bp⟩:=GT (P:=Tryz.prog) (T:=AJ) (lo:=some (.const (vi 1))) (hi:=none) (mx:=none) (t:=55) (E:=9) (by_:=16) (c:=hn) (a:=hm) (l:=h7) (r:=h9) (il:=1) (ih:=(h7.length:Int)) (im:=0) (by kernel_rfl) (by kernel_rfl) bj b3 (fun h=>by first | rfl | cases h) bk;refine V 14 55 (bp (x:=.tmp 13) rfl rfl rfl trivial)<|Vs 2<|Nt ?_;have bq:=bi.dummy (oc #[] 0);obtain⟨b4,br,b5⟩:=bS bl;refine AcA (fun f w=>∃(Z:(List Int×Int))(F3:_)(h0:AcQ)(h1:_)(ho:_),b4=.done Z/\HS wb Fb w F3 (ho::(sb I (AM G h5 h6 J O) 27)::Lf)/\Acs F1 F3/\FI f [] [(0,(pt I 0)),(5,(sL hm h7 hn)),(6,(sL h0 Z.1 h1))]/\Aq AO 3 F3 h0 h1 Z.1 ho) ?_ ?_
 ·refine Bk<|Acr (by kernel_rfl) (fun m f w=>∃(Y:(List Int×Int))(F2:Mem)(ha:AcQ)(hb:Nat)(hc:oO),AF (B0 N G x1 h7 h9) m Y=some b4/\HS wb Fb w F2 (hc::(sb I (AM G h5 h6 J O) 27)::Lf)/\Acs F1 F2/\FI f [] [(0,(pt I 0)),(5,(sL hm h7 hn)),(6,(sL ha Y.1 hb)),(14,(sL bm h9 bn)),(15,(vi (h9.length:Int))),(16,(vi Y.2))]/\Aq AO 3 F2 ha hb Y.1 hc) N ⟨(([]:List Int),0),F1,none,0,(none,.cells #[] 0 (0,0)),br,bq,Acu _,fI,AcI AO 3 F1 _⟩ ?_;rintro d8 f bs ⟨Y,F2,ha,hb,hc,bt,hg,h2,⟨_,rfl⟩,b6⟩;obtain⟨bu,d9,rfl,bv,hp⟩:=AB bt;refine sR [0]<|Vs 1<|Nss<|Cd bv (fun bw bx=>?_) (fun bw bz=>?_)
  ·refine Sc<|Ab<|Sq<|Bk<|sR [0,1,2] ?_;obtain⟨c0,c1,c3⟩:=bS bx;obtain⟨c4,hx71'⟩:=Ag c1;obtain⟨da,db,dc,dd,de,rfl,hF80,hE81⟩:=AcB (Acw bo h2) hx71';have c5:=hE81 _ _ hx71';refine Ix c4<|Lx 0 (hg.pers _ _ hF80) c5<|Vs 1<|nR (rG 7)<|Vs 1 ?_;obtain⟨hq,c6,c7⟩:=bS c3;refine Cl' (cO 95) hg (B4 N bs F2 hg.pers (hG.mono (h3.t h2)) c0 _ c6) ?_;rintro _ F4 df b7 h8 rfl;refine Vs 5<|Nss<|sR [0,1]<|Vs 2<|Nt<|Cd c7 (fun c8 c9=>?_) (fun c8 ca=>?_)
   ·refine sR [0]<|Vs 1<|Nt<|Rt<|Ad<|Ar<|Ad<|Ad<|Ar ?_;have hret:=Bf c9 hp;subst hret;refine .inr<|Ad ?_;obtain rfl:=Aa b5;exact ReB [bF] b7.dr0 ((h3.t h2).trans h8) ⟨h5,h6,J,O,rfl,rfl,be,Acw bf ((h3.t h2).trans h8),hw,Acw hx ((h3.t h2).trans h8)⟩
   ·refine Sc<|Ab<|Rg (rG 5)<|Vs 2<|Bs 3 [vi hq.1] b7 (fun b8 dg b9=>?_);have cb:Aq AO 3 F4 (sA b8) 1 [hq.1] (some b8,.cells (lA [vi hq.1]) 3 (0,0)):=AcJ ⟨rfl,rfl⟩ (by simp);obtain⟨cc,cd,ce⟩:=bS ca;refine Ap1 Aab b9 (b6.mono h8) (b9.rd0 cb) cd (fun cf cg ch dh ci cj=>?_);refine Vs 1<|Aco<|Am<|Ab<|Rg [0,1]<|Vs 2<|Aco ?_;have cl:=Ay ce hp;exact⟨bu,xF _,(cc,(W64 (Y.2 + 1))),F4,cf,cg,ch,cl,ci.dr0,h2.t h8,fI,cj⟩
  ·refine Ex<|Ak<|Ak<|Av rfl ?_;have cm:=AA bz hp;exact .inl ⟨rfl,(Y.1,Y.2),F2,ha,hb,hc,cm,hg,h2,fI,b6⟩
 ·rintro f di ⟨Z,F3,h0,h1,ho,rfl,cn,hr,⟨_,rfl⟩,ba⟩;have co:=AW b5;refine Ab<|sR (rG 5)<|Vs 4 ?_;have bb:=AcH ba;obtain⟨F5,cp,ht,bc⟩:=cn.fr0 ba;refine St0 #[sv G.Call,vi G.Category,vi G.Power,vi G.Claimed,sL h0 Z.1 h1,sL J G.Lines O] cp (fun cq hh=>?_);refine nR (rG 9) ?_;obtain⟨bd,cr,ct⟩:=bS co;refine Acz (kP wb Fb F5 ((sb I #[sv G.Call,vi G.Category,vi G.Power,vi G.Claimed,sL h0 Z.1 h1,sL J G.Lines O] 27)::Lf) [] [(4,(.bool bd))]) ?_ ?_
  ·refine Vs 1 ?_;obtain⟨dj,cu,cv⟩:=bS cr;obtain⟨cw,hx127'⟩:=Ag cu;obtain⟨dk,dl,dm,dn,dp,rfl,hF136,hE137⟩:=AcB (Acw b3 (hr.t ht)) hx127';have cx:=hE137 _ _ hx127';refine Ix cw<|Lx 0 (hh.pers _ _ hF136) cx<|Vs 2<|Sp cv (fun h4 cy=>?_) (fun h4 cz=>?_)
   ·refine Vgs h4 1 ?_;obtain⟨dq,d0,d1⟩:=bS cy;refine Cg h4 (cO 80) hh (KV N cq F5 hh.pers Z.1 h0 h1 bb bc _ d0) ?_;rintro _ F7 dr d2 d3 rfl;refine Pk1 h4<|Vs 1 ?_;obtain rfl:=Aa d1;exact Aco ⟨rfl,F7,d2,d3,fI⟩
   ·refine Ss h4 2<|Pk0 h4<|Vs 1 ?_;obtain rfl:=Aa cz;exact Aco ⟨rfl,F5,hh,Acu _,fI⟩
  ·rintro f ds ⟨F6,d4,hu,⟨_,rfl⟩⟩;refine Ab<|Rt ?_;obtain rfl:=Aa ct;exact ReB [.bool bd] d4 (((h3.t hr).trans ht).trans hu) ⟨h0,h1,J,O,rfl,rfl,bb,Acw bc hu,hw,Acw hx (((h3.t hr).trans ht).trans hu)⟩
def DP(N:Nat)(G:Ao)(I:AcP):Option (Ao×Ax):=
 ((bif(!(LI G.read_ I))then((Fg N (lY G.o_) I).bind fun J=>((some (Nm G.read_ I ({x_:=J.1,ok_:=(J.2==0)}:Ax))).bind fun Y=>some (J.1.Num,J.1.Khz,J.1.Mode,J.1.Minute,J.1.Call,J.1.Sent.Report,J.1.Sent.Serial,J.1.Sent.Zone,J.1.Got.Report,J.1.Got.Serial,J.1.Got.Zone,(J.2==0),Y)))else some ((EP G.read_ I zX).x_.Num,(EP G.read_ I zX).x_.Khz,(EP G.read_ I zX).x_.Mode,(EP G.read_ I zX).x_.Minute,(EP G.read_ I zX).x_.Call,(EP G.read_ I zX).x_.Sent.Report,(EP G.read_ I zX).x_.Sent.Serial,(EP G.read_ I zX).x_.Sent.Zone,(EP G.read_ I zX).x_.Got.Report,(EP G.read_ I zX).x_.Got.Serial,(EP G.read_ I zX).x_.Got.Zone,(EP G.read_ I zX).ok_,G.read_)).bind fun O=>some (({o_:=(lY G.o_),lines_:=G.lines_,known_:=G.known_,read_:=O.2.2.2.2.2.2.2.2.2.2.2.2}:Ao),({x_:=({Num:=O.1,Khz:=O.2.1,Mode:=O.2.2.1,Minute:=O.2.2.2.1,Call:=O.2.2.2.2.1,Sent:=({Report:=O.2.2.2.2.2.1,Serial:=O.2.2.2.2.2.2.1,Zone:=O.2.2.2.2.2.2.2.1}:Af),Got:=({Report:=O.2.2.2.2.2.2.2.2.1,Serial:=O.2.2.2.2.2.2.2.2.2.1,Zone:=O.2.2.2.2.2.2.2.2.2.2.1}:Af)}:Line),ok_:=O.2.2.2.2.2.2.2.2.2.2.2.1}:Ax)))
theorem Lt(N:Nat){wb w0:World}{Fb F0:Mem}{Lf:Own}(hG:BH F0)(h0:Nat)(J:Ao)(h1:AcQ)(h2 Y:Nat)(h3:oO)(O:Nat)(h9:oO)(hx:LC J.lines_.length h2)(hy:SlA AJ F0 h1 J.lines_)(hz:BJ AH AO F0 Y J.known_ h3)(ha:BJ AJ AC F0 O J.read_ h9)(Z:AcP)(b0:HS wb Fb w0 F0 ((sb h0 (rD J.o_ h1 J.lines_ h2 Y O) 148)::h3::h9::Lf))(r:(Ao×Ax))(h:DP N J Z=some r):
  cP 205 (lA [pt h0 0,sv Z]) w0 (Hm wb Fb F0 fun F' v L'=>∃(hg:AcQ)(hh:Nat)(hm:oO)(hn:oO),v=(.agg (Hr r.2))/\L'=(sb h0 (rD r.1.o_ hg r.1.lines_ hh Y O) 148)::hm::hn::Lf/\LC r.1.lines_.length hh/\SlA AJ F' hg r.1.lines_/\BJ AH AO F' Y r.1.known_ hm/\BJ AJ AC F' O r.1.read_ hn):=by
 refine Go 40 Tryz.func205<|sR [0]<|Al' 243 #[vi 0,vi 0,vi 0,vi 0,sE,vi 0,vi 0,vi 0,vi 0,vi 0,vi 0,bF] b0 (fun h4 bo hb=>?_);refine nR (rG 12)<|Vs 3<|Ld hb.at1<|Vs 1<|V 15 279 (QV (mt:=146) (k:=9) (vt:=243) (m:=.tmp 13) (x:=.tmp 14) (kv:=sv Z) (kx:=Z) (z:=.agg #[vi 0,vi 0,vi 0,vi 0,sE,vi 0,vi 0,vi 0,vi 0,vi 0,vi 0,bF]) (zx:=zX) (K:=AJ) (T:=AC) kl9 rfl rfl ⟨_,rfl,rfl⟩ (by kernel_rfl) (by kernel_rfl) ⟨_,rfl,rfl⟩ (BJ.mpw hb (i:=3) rfl ha) (fun h=>by obtain⟨_,rfl,rfl⟩:=h;rfl))<|Vs 3<|Al' 243 #[vi 0,vi 0,vi 0,vi 0,sE,vi 0,vi 0,vi 0,vi 0,vi 0,vi 0,bF] hb (fun h5 bp b1=>?_);refine St0 (Hr (EP J.read_ Z zX)) b1 (fun b2 h6=>?_);refine Vs 1<|Nss<|sR [0,1]<|Vs 2<|Nt ?_;obtain⟨I,b3,b4⟩:=bS h;refine AcA (fun f w=>∃F1 h7,HS wb Fb w F1 ((sb h5 #[vi I.1,vi I.2.1,vi I.2.2.1,vi I.2.2.2.1,sv I.2.2.2.2.1,vi I.2.2.2.2.2.1,vi I.2.2.2.2.2.2.1,vi I.2.2.2.2.2.2.2.1,vi I.2.2.2.2.2.2.2.2.1,vi I.2.2.2.2.2.2.2.2.2.1,vi I.2.2.2.2.2.2.2.2.2.2.1,.bool I.2.2.2.2.2.2.2.2.2.2.2.1] 243)::(sb h4 #[vi 0,vi 0,vi 0,vi 0,sE,vi 0,vi 0,vi 0,vi 0,vi 0,vi 0,bF] 243)::(sb h0 (rD J.o_ h1 J.lines_ h2 Y O) 148)::h3::h7::Lf)/\Acs F0 F1/\FI f [] [(4,(pt h4 0)),(5,(pt h5 0))]/\BJ AJ AC F1 O I.2.2.2.2.2.2.2.2.2.2.2.2 h7) ?_ ?_
 ·refine Cd b3 (fun b5 b6=>?_) (fun b5 b7=>?_)
  ·refine sR (rG 12)<|Vs 3<|Ld h6.at2<|Vs 1 ?_;obtain⟨G,b8,b9⟩:=bS b6;refine Cl' (cO 31) h6 (Kt N b2 F0 h6.pers hG (lY J.o_) Z _ b8) ?_;rintro _ F2 bq ba ho rfl;refine Vs 3<|Al' 34 zA ba (fun hp br bb=>?_);refine St0 (Cj G.1) bb (fun bs hr=>?_);refine Vs 1<|nR (rG 5)<|Ld hr.at0<|Vs 3<|St1 #[vi G.1.Num,vi G.1.Khz,vi G.1.Mode,vi G.1.Minute,sv G.1.Call,vi G.1.Sent.Report,vi G.1.Sent.Serial,vi G.1.Sent.Zone,vi G.1.Got.Report,vi G.1.Got.Serial,vi G.1.Got.Zone,.bool (G.2==0)] hr (fun bt bc=>?_);refine Nt ?_;obtain⟨bd,be,bf⟩:=bS b9;refine RD 7 7 [sb hp (Cj G.1) 34,sb h5 #[vi G.1.Num,vi G.1.Khz,vi G.1.Mode,vi G.1.Minute,sv G.1.Call,vi G.1.Sent.Report,vi G.1.Sent.Serial,vi G.1.Sent.Zone,vi G.1.Got.Report,vi G.1.Got.Serial,vi G.1.Got.Zone,.bool (G.2==0)] 243,sb h4 #[vi 0,vi 0,vi 0,vi 0,sE,vi 0,vi 0,vi 0,vi 0,vi 0,vi 0,bF] 243,sb h0 (rD J.o_ h1 J.lines_ h2 Y O) 148,h3] [] bc (fun f w=>∃F3 h8,HS wb Fb w F3 ((sb h5 #[vi G.1.Num,vi G.1.Khz,vi G.1.Mode,vi G.1.Minute,sv G.1.Call,vi G.1.Sent.Report,vi G.1.Sent.Serial,vi G.1.Sent.Zone,vi G.1.Got.Report,vi G.1.Got.Serial,vi G.1.Got.Zone,.bool (G.2==0)] 243)::(sb h4 #[vi 0,vi 0,vi 0,vi 0,sE,vi 0,vi 0,vi 0,vi 0,vi 0,vi 0,bF] 243)::(sb h0 (rD J.o_ h1 J.lines_ h2 Y O) 148)::h3::h8::Lf)/\Acs F2 F3/\FI f [] [(4,(pt h4 0)),(5,(pt h5 0))]/\BJ AJ AC F3 O bd h8) (fun bu bg=>?_) ?_
   ·refine Dv [0,1,2]<|Dl 3 (fun _ hq=>hq.1.2 3 _ _ rfl)<|Dv [4]<|Dl 5 (fun _ hq=>hq.1.2 1 _ _ rfl)<|D1 6<|AE.mapPut (l':=[tt,tt,tt,tt,tt,tt,tt]) (zd:=true) (by kernel_rfl) (by kernel_rfl) kl9 (ty:=0) (g:=none) (mt:=146) (k:=9) (vt:=243) (m:=.tmp 36) (x:=.tmp 37) (y:=.tmp 38) (b:=O) (kx:=Z) (u:=({x_:=G.1,ok_:=(G.2==0)}:Ax)) (kv:=sv Z) (v:=.agg #[vi G.1.Num,vi G.1.Khz,vi G.1.Mode,vi G.1.Minute,sv G.1.Call,vi G.1.Sent.Report,vi G.1.Sent.Serial,vi G.1.Sent.Zone,vi G.1.Got.Report,vi G.1.Got.Serial,vi G.1.Got.Zone,.bool (G.2==0)]) (K:=AJ) (T:=AC) (by kernel_rfl) rfl rfl rfl rfl ⟨_,rfl,rfl⟩ ⟨_,rfl,rfl⟩ (by kernel_rfl) bg (q:=5) rfl (ha.mono ho) (Acu _) (fun _=>by simp) (fun e=>by cases e) (fun ht bh (bi:HS wb Fb bh F2 ((sb hp (Cj G.1) 34)::(sb h5 #[vi G.1.Num,vi G.1.Khz,vi G.1.Mode,vi G.1.Minute,sv G.1.Call,vi G.1.Sent.Report,vi G.1.Sent.Serial,vi G.1.Sent.Zone,vi G.1.Got.Report,vi G.1.Got.Serial,vi G.1.Got.Zone,.bool (G.2==0)] 243)::(sb h4 #[vi 0,vi 0,vi 0,vi 0,sE,vi 0,vi 0,vi 0,vi 0,vi 0,vi 0,bF] 243)::(sb h0 (rD J.o_ h1 J.lines_ h2 Y O) 148)::h3::ht::Lf)) bj=>?_);obtain rfl:=Aa be;exact AcG (by kernel_rfl) ⟨F2,ht,bi.dr0,Acu _,fI,bj⟩
   ·rintro f bv ⟨F3,h8,bk,bl,⟨_,rfl⟩,bm⟩;obtain rfl:=Aa bf;exact .inl ⟨rfl,F3,h8,bk,ho.t bl,fI,bm⟩
  ·refine Sc ?_;obtain rfl:=Aa b7;exact .inl ⟨rfl,F0,h9,h6,Acu _,fI,ha⟩
 ·rintro f bw ⟨F1,h7,hu,hc,⟨_,rfl⟩,bn⟩;refine Ab<|sR [0,1]<|Ld hu.at0<|St1 #[vi I.1,vi I.2.1,vi I.2.2.1,vi I.2.2.2.1,sv I.2.2.2.2.1,vi I.2.2.2.2.2.1,vi I.2.2.2.2.2.2.1,vi I.2.2.2.2.2.2.2.1,vi I.2.2.2.2.2.2.2.2.1,vi I.2.2.2.2.2.2.2.2.2.1,vi I.2.2.2.2.2.2.2.2.2.2.1,.bool I.2.2.2.2.2.2.2.2.2.2.2.1] hu (fun bx hw=>?_);refine Nt<|Rt ?_;obtain rfl:=Aa b4;exact⟨rfl,.agg #[vi I.1,vi I.2.1,vi I.2.2.1,vi I.2.2.2.1,sv I.2.2.2.2.1,vi I.2.2.2.2.2.1,vi I.2.2.2.2.2.2.1,vi I.2.2.2.2.2.2.2.1,vi I.2.2.2.2.2.2.2.2.1,vi I.2.2.2.2.2.2.2.2.2.1,vi I.2.2.2.2.2.2.2.2.2.2.1,.bool I.2.2.2.2.2.2.2.2.2.2.2.1],aK [.cell 4 243] [.agg #[vi I.1,vi I.2.1,vi I.2.2.1,vi I.2.2.2.1,sv I.2.2.2.2.1,vi I.2.2.2.2.2.1,vi I.2.2.2.2.2.2.1,vi I.2.2.2.2.2.2.2.1,vi I.2.2.2.2.2.2.2.2.1,vi I.2.2.2.2.2.2.2.2.2.1,vi I.2.2.2.2.2.2.2.2.2.2.1,.bool I.2.2.2.2.2.2.2.2.2.2.2.1]] ⟨h4,0,rfl,aL 243 12 hw.at1,trivial⟩,F1,_,_,rfl,hw.dr0.dr0,hc,⟨h1,h2,h3,h7,rfl,rfl,hx,Acw hy hc,hz.mono hc,bn⟩⟩
def Fz(N:Nat)(G:Log)(O z0:AcP)(Y Z:Int):Option (Log×Bool):=
 ((A5 z0 ([32]:AcP)).bind fun h0=>((strings_CutPrefix N O h0).bind fun J=>((AU N J.1).bind fun I=>((bif(!J.2)then some true else(bif(!I.2)then some true else((Bb N I.1 Y Z).bind fun h1=>some (!h1)))).bind fun h2=>(bif h2 then some (G,false)else some (({Call:=G.Call,Category:=I.1,Power:=G.Power,Claimed:=G.Claimed,Jumps:=G.Jumps,Lines:=G.Lines}:Log),true))))))
theorem NI(N:Nat){wb w0:World}{Fb F0:Mem}{Lf:Own}(hG:BH F0)(Z:Nat)(G:Log)(h0:AcQ)(h1:Nat)(h2:AcQ)(h3:Nat)(hb:LC G.Jumps.length h1)(hc:SlA AO F0 h0 G.Jumps)(hg:LC G.Lines.length h3)(hh:SlA AR F0 h2 G.Lines)(x1:AcP)(hm:Nat)(z0:AcP)(hx:F0 hm=some (oc #[sv z0] 9))(hn:Nat)(z1:Int)(hy:F0 hn=some (oc #[vi z1] 3))(ho:Nat)(z2:Int)(hz:F0 ho=some (oc #[vi z2] 3))(h7:Nat)(b0:F0 h7=some (oc #[fV 156 #[]] 195))(h8:HS wb Fb w0 F0 ((sb Z (AM G h0 h1 h2 h3) 27)::Lf))(r:(Log×Bool))(h:Fz N G x1 z0 z1 z2=some r):
  cP 190 (lA [pt Z 0,sv x1,pt hm 0,pt hn 0,pt ho 0,pt h7 0]) w0 (Hm wb Fb F0 fun F' v L'=>∃(hp:AcQ)(hq:Nat)(hr:AcQ)(ht:Nat),v=(.bool r.2)/\L'=(sb Z (AM r.1 hp hq hr ht) 27)::Lf/\LC r.1.Jumps.length hq/\SlA AO F' hp r.1.Jumps/\LC r.1.Lines.length ht/\SlA AR F' hr r.1.Lines):=by
 refine Go 43 Tryz.func190<|sR [0]<|Vs 1<|nR (rG 9)<|Vs 1<|Ld (h8.pers _ _ hx) ?_;obtain⟨hu,b1,b2⟩:=bS h;refine V 16 9 (aZ (.tmp 15) (.const (sv ([32]:AcP))) b1) ?_;obtain⟨b3,b4,b5⟩:=bS b2;refine Cl' (cO 189) h8 (Bz N w0 F0 h8.pers x1 hu _ b4) ?_;rintro _ F1 b6 hw I rfl;refine Vs 5<|nR (rG 7)<|Vs 1 ?_;obtain⟨h9,b7,b8⟩:=bS b5;refine Cl' (cO 95) hw (B4 N b6 F1 hw.pers (hG.mono I) b3.1 _ b7) ?_;rintro _ F2 b9 h4 J rfl;refine Vs 5<|Nss<|sR (rG 13) ?_;obtain⟨ba,bb,bc⟩:=bS b8;refine Acz (kP wb Fb F2 ((sb Z (AM G h0 h1 h2 h3) 27)::Lf) [] [(0,(pt Z 0)),(5,(pt h7 0)),(11,(vi h9.1)),(37,(.bool ba))]) ?_ ?_
 ·refine Vs 3<|Sp bb (fun h5 bd=>?_) (fun h5 be=>?_)
  ·refine Ss h5 2<|Pk1 h5<|Vs 1<|Ss rT 5<|Pk1 rT ?_;obtain rfl:=Aa bd;exact Aco ⟨rfl,F2,h4,Acu _,fI⟩
  ·refine Vgs h5 2<|Pk0 h5<|Vs 1<|Sp be (fun O bf=>?_) (fun O bg=>?_)
   ·refine Ss O 5<|Pk1 O ?_;obtain rfl:=Aa bf;exact Aco ⟨rfl,F2,h4,Acu _,fI⟩
   ·refine Vgs O 1<|Lg O (h4.pers _ _ ((I.t J) _ _ hy))<|Lg O (h4.pers _ _ ((I.t J) _ _ hz)) ?_;obtain⟨br,bh,bi⟩:=bS bg;refine Cg O (cO 73) h4 (A0 N b9 F2 h4.pers h9.1 z1 z2 _ bh) ?_;rintro _ F4 bs bj bk rfl;refine Vgs O 1<|Pk0 O ?_;obtain rfl:=Aa bi;exact Aco ⟨rfl,F4,bj,bk,fI⟩
 ·rintro f bl ⟨F3,h6,Y,⟨_,rfl⟩⟩;refine Ab<|Cd bc (fun bm bn=>?_) (fun bm bo=>?_)
  ·refine sR [0]<|Vs 1<|Nt<|Rt<|Ad ?_;obtain rfl:=Aa bn;exact ReB [bF] h6 ((I.t J).trans Y) ⟨h0,h1,h2,h3,rfl,rfl,hb,Acw hc ((I.t J).trans Y),hg,Acw hh ((I.t J).trans Y)⟩
  ·refine Sc<|Ab<|sR (rG 6)<|Ld (h6.pers _ _ (((I.t J).trans Y) _ _ b0))<|Vs 1<|Cl' (cO 156) h6 (Sg bl F3 h6.pers Z 0) ?_;rintro _ F5 bt bp ha rfl;refine Vs 2<|St0 #[sv G.Call,vi h9.1,vi G.Power,vi G.Claimed,sL h0 G.Jumps h1,sL h2 G.Lines h3] bp (fun bu bq=>?_);refine nR [0]<|Vs 1<|Nt<|Rt ?_;obtain rfl:=Aa bo;exact ReB [bT] bq (((I.t J).trans Y).trans ha) ⟨h0,h1,h2,h3,rfl,rfl,hb,Acw hc (((I.t J).trans Y).trans ha),hg,Acw hh (((I.t J).trans Y).trans ha)⟩
def Fx(N:Nat)(G:Log)(O z0:AcP)(Y Z:Int):Option (Log×Bool):=
 ((A5 z0 ([32]:AcP)).bind fun h0=>((strings_CutPrefix N O h0).bind fun J=>((AU N J.1).bind fun I=>((bif(!J.2)then some true else(bif(!I.2)then some true else((Bb N I.1 Y Z).bind fun h1=>some (!h1)))).bind fun h2=>(bif h2 then some (G,false)else some (({Call:=G.Call,Category:=G.Category,Power:=I.1,Claimed:=G.Claimed,Jumps:=G.Jumps,Lines:=G.Lines}:Log),true))))))
theorem NG(N:Nat){wb w0:World}{Fb F0:Mem}{Lf:Own}(hG:BH F0)(Z:Nat)(G:Log)(h0:AcQ)(h1:Nat)(h2:AcQ)(h3:Nat)(hb:LC G.Jumps.length h1)(hc:SlA AO F0 h0 G.Jumps)(hg:LC G.Lines.length h3)(hh:SlA AR F0 h2 G.Lines)(x1:AcP)(hm:Nat)(z0:AcP)(hx:F0 hm=some (oc #[sv z0] 9))(hn:Nat)(z1:Int)(hy:F0 hn=some (oc #[vi z1] 3))(ho:Nat)(z2:Int)(hz:F0 ho=some (oc #[vi z2] 3))(h7:Nat)(b0:F0 h7=some (oc #[fV 157 #[]] 195))(h8:HS wb Fb w0 F0 ((sb Z (AM G h0 h1 h2 h3) 27)::Lf))(r:(Log×Bool))(h:Fx N G x1 z0 z1 z2=some r):
  cP 190 (lA [pt Z 0,sv x1,pt hm 0,pt hn 0,pt ho 0,pt h7 0]) w0 (Hm wb Fb F0 fun F' v L'=>∃(hp:AcQ)(hq:Nat)(hr:AcQ)(ht:Nat),v=(.bool r.2)/\L'=(sb Z (AM r.1 hp hq hr ht) 27)::Lf/\LC r.1.Jumps.length hq/\SlA AO F' hp r.1.Jumps/\LC r.1.Lines.length ht/\SlA AR F' hr r.1.Lines):=by
 refine Go 43 Tryz.func190<|sR [0]<|Vs 1<|nR (rG 9)<|Vs 1<|Ld (h8.pers _ _ hx) ?_;obtain⟨hu,b1,b2⟩:=bS h;refine V 16 9 (aZ (.tmp 15) (.const (sv ([32]:AcP))) b1) ?_;obtain⟨b3,b4,b5⟩:=bS b2;refine Cl' (cO 189) h8 (Bz N w0 F0 h8.pers x1 hu _ b4) ?_;rintro _ F1 b6 hw I rfl;refine Vs 5<|nR (rG 7)<|Vs 1 ?_;obtain⟨h9,b7,b8⟩:=bS b5;refine Cl' (cO 95) hw (B4 N b6 F1 hw.pers (hG.mono I) b3.1 _ b7) ?_;rintro _ F2 b9 h4 J rfl;refine Vs 5<|Nss<|sR (rG 13) ?_;obtain⟨ba,bb,bc⟩:=bS b8;refine Acz (kP wb Fb F2 ((sb Z (AM G h0 h1 h2 h3) 27)::Lf) [] [(0,(pt Z 0)),(5,(pt h7 0)),(11,(vi h9.1)),(37,(.bool ba))]) ?_ ?_
 ·refine Vs 3<|Sp bb (fun h5 bd=>?_) (fun h5 be=>?_)
  ·refine Ss h5 2<|Pk1 h5<|Vs 1<|Ss rT 5<|Pk1 rT ?_;obtain rfl:=Aa bd;exact Aco ⟨rfl,F2,h4,Acu _,fI⟩
  ·refine Vgs h5 2<|Pk0 h5<|Vs 1<|Sp be (fun O bf=>?_) (fun O bg=>?_)
   ·refine Ss O 5<|Pk1 O ?_;obtain rfl:=Aa bf;exact Aco ⟨rfl,F2,h4,Acu _,fI⟩
   ·refine Vgs O 1<|Lg O (h4.pers _ _ ((I.t J) _ _ hy))<|Lg O (h4.pers _ _ ((I.t J) _ _ hz)) ?_;obtain⟨br,bh,bi⟩:=bS bg;refine Cg O (cO 73) h4 (A0 N b9 F2 h4.pers h9.1 z1 z2 _ bh) ?_;rintro _ F4 bs bj bk rfl;refine Vgs O 1<|Pk0 O ?_;obtain rfl:=Aa bi;exact Aco ⟨rfl,F4,bj,bk,fI⟩
 ·rintro f bl ⟨F3,h6,Y,⟨_,rfl⟩⟩;refine Ab<|Cd bc (fun bm bn=>?_) (fun bm bo=>?_)
  ·refine sR [0]<|Vs 1<|Nt<|Rt<|Ad ?_;obtain rfl:=Aa bn;exact ReB [bF] h6 ((I.t J).trans Y) ⟨h0,h1,h2,h3,rfl,rfl,hb,Acw hc ((I.t J).trans Y),hg,Acw hh ((I.t J).trans Y)⟩
  ·refine Sc<|Ab<|sR (rG 6)<|Ld (h6.pers _ _ (((I.t J).trans Y) _ _ b0))<|Vs 1<|Cl' (cO 157) h6 (Sf bl F3 h6.pers Z 0) ?_;rintro _ F5 bt bp ha rfl;refine Vs 2<|St0 #[sv G.Call,vi G.Category,vi h9.1,vi G.Claimed,sL h0 G.Jumps h1,sL h2 G.Lines h3] bp (fun bu bq=>?_);refine nR [0]<|Vs 1<|Nt<|Rt ?_;obtain rfl:=Aa bo;exact ReB [bT] bq (((I.t J).trans Y).trans ha) ⟨h0,h1,h2,h3,rfl,rfl,hb,Acw hc (((I.t J).trans Y).trans ha),hg,Acw hh (((I.t J).trans Y).trans ha)⟩
end Go.Proofs.YthljkpeimofbbaaGreatDoor
