/- Contracts of functions, each walked once; each theorem states its conditions. -/
import Derived.Test.YtbiefppedlodiaaGreatDoorProg
import Derived.Test.YtbiefppedlodiaaGreatDoorAMp4
import Derived.Test.YtbiefppedlodiaaGreatDoorAMp6
import Derived.Test.YtbiefppedlodiaaGreatDoorAMp5
open Int renaming eq_ofNat_of_zero_le -> ba, toNat_natCast -> aC
open List renaming drop -> aK, getD -> bm, getElem?_eq_getElem -> ag, getElem?_map -> aN, length_take -> aV, map_append -> aH, replicate_succ -> av, take -> aD, take_of_length_le -> ad, take_succ_eq_append_getElem -> af
open Nat renaming le_refl -> ax, pow_succ -> cj, zero_le -> aA
open Option.some renaming inj -> bZ
set_option linter.unusedSimpArgs false
set_option linter.unusedVariables false
open Nat renaming reduceLT -> Na, reduceLeDiff -> Nb, reduceEqDiff -> Nc, reduceAdd -> Nk, reduceMul -> Nf, reducePow -> Ng, reduceSub -> Nh, reduceBEq -> Nz
open Int renaming reduceLT -> Za, reduceLE -> Zb, reduceToNat -> Zc
open And renaming intro -> Ai
open Go.AM renaming ashift -> Qa, aconv -> Qb, aindexAddr -> Qc, aindex -> Qd, aslice -> Qe, abuiltin -> Qf, awp_reg_seq -> wS, awp_reg_end -> wE, awp_seq_k -> wK, awp_cond_k -> wC
open Go.AM.AV renaming cells -> Qg, one -> Qh
set_option maxRecDepth 100000
set_option maxHeartbeats 8000000
namespace Go.Proofs.YtbiefppedlodiaaGreatDoor
open Go Go.AM Go.Proofs Tryz
theorem T.c3:prog.cellsOf 3=1:=kM
theorem T.b3:prog.bytesOf 3=8:=kM
theorem T.c5:prog.cellsOf 5=1:=kM
theorem T.b5:prog.bytesOf 5=1:=kM
theorem T.z5:eO prog 5=some [.v (.int .u8 0)]:=kM
theorem T.Vw:prog.cellsOf 22=1:=kM
theorem T.LR:prog.cellsOf 23=1:=kM
theorem T.MR:prog.cellsOf 24=1:=kM
theorem T.XG:prog.cellsOf 26=6:=kM
theorem T.Zh:prog.cellsOf 29=1:=kM
theorem T.c32:prog.cellsOf 32=3:=kM
theorem T.c38:prog.cellsOf 38=6:=kM
theorem T.HQ:prog.cellsOf 54=5:=kM
theorem T.b54:prog.bytesOf 54=88:=kM
theorem T.z54:eO prog 54=some [.v (.int .i64 0),.v (.slice none 0 0),.v (.int .u64 0),.v (.slice none 0 0),.v (.slice none 0 0)]:=kM
theorem T.c76:prog.cellsOf 76=2:=kM
theorem T.c78:prog.cellsOf 78=2:=kM
theorem T.xbG:prog.cellsOf 108=2:=kM
theorem T.J8:prog.cellsOf 214=1:=kM
theorem T.xbH:eO prog 214=some [.v (.int .u32 0)]:=kM
theorem T.xbI:prog.cellsOf 215=8:=kM
theorem T.VC:prog.cellsOf 236=16:=kM
theorem T.xbJ:prog.cellsOf 246=64:=kM
theorem T.xbK:prog.cellsOf 252=256:=kM
theorem T.xbL:prog.cellsOf 254=176:=kM
theorem T.xbM:prog.cellsOf 264=4:=kM
theorem T.mixed:prog.follows .mixedOrders=true:=kM
theorem TF:((((((fC prog 3=some false∧eO prog 3=some [.v (.int .i64 0)]∧prog.cellsOf 4=1∧prog.bytesOf 4=1∧fC prog 4=some false∧eO prog 4=some [.v (.bool false)])∧(fC prog 5=some false∧prog.cellsOf 9=1∧prog.bytesOf 9=16∧fC prog 9=some false∧eO prog 9=some [.v (.string ByteArray.empty)]∧prog.bytesOf 22=24))∧((fC prog 22=some false∧eO prog 22=some [.v (.slice none 0 0)]∧iZ prog 22=true∧prog.bytesOf 23=24∧fC prog 23=some false∧eO prog 23=some [.v (.slice none 0 0)])∧(iZ prog 23=true∧prog.bytesOf 24=24∧fC prog 24=some false∧eO prog 24=some [.v (.slice none 0 0)]∧iZ prog 24=true∧prog.bytesOf 26=112)))∧(((fC prog 26=some true∧kf prog 26=true∧fk prog 26 0=some (0,22)∧fk prog 26 1=some (1,3)∧fk prog 26 3=some (3,23)∧fk prog 26 4=some (4,23))∧(fk prog 26 5=some (5,24)∧eO prog 26=some [.v (.slice none 0 0),.v (.int .i64 0),.v (.int .i64 0),.v (.slice none 0 0),.v (.slice none 0 0),.v (.slice none 0 0)]∧prog.bytesOf 29=8∧fC prog 29=some false∧eO prog 29=some [.v (.int .u64 0)]∧prog.cellsOf 30=1))∧((prog.bytesOf 30=24∧fC prog 30=some false∧eO prog 30=some [.v (.slice none 0 0)]∧iZ prog 30=true∧prog.bytesOf 32=56∧fC prog 32=some true)∧(kf prog 32=true∧fk prog 32 0=some (0,29)∧fk prog 32 1=some (1,23)∧fk prog 32 2=some (2,30)∧eO prog 32=some [.v (.int .u64 0),.v (.slice none 0 0),.v (.slice none 0 0)]))))∧((((prog.cellsOf 33=1∧prog.bytesOf 33=24∧fC prog 33=some false∧eO prog 33=some [.v (.slice none 0 0)]∧iZ prog 33=true∧prog.cellsOf 34=1)∧(prog.bytesOf 34=8∧fC prog 34=some false∧eO prog 34=some [.v (.int .i64 0)]∧prog.bytesOf 38=120∧fC prog 38=some true∧kf prog 38=true))∧((fk prog 38 0=some (0,32)∧fk prog 38 1=some (3,22)∧fk prog 38 2=some (4,33)∧fk prog 38 3=some (5,9)∧eO prog 38=some [.v (.int .u64 0),.v (.slice none 0 0),.v (.slice none 0 0),.v (.slice none 0 0),.v (.slice none 0 0),.v (.string ByteArray.empty)]∧prog.cellsOf 50=1)∧(prog.bytesOf 50=24∧fC prog 50=some false∧eO prog 50=some [.v (.slice none 0 0)]∧iZ prog 50=true∧prog.cellsOf 51=1∧prog.bytesOf 51=24)))∧(((fC prog 51=some false∧eO prog 51=some [.v (.slice none 0 0)]∧iZ prog 51=true∧fC prog 54=some true∧kf prog 54=true∧fk prog 54 0=some (0,3))∧(fk prog 54 1=some (1,23)∧fk prog 54 2=some (2,29)∧fk prog 54 3=some (3,23)∧fk prog 54 4=some (4,24)∧prog.cellsOf 67=2∧prog.bytesOf 67=16))∧((fC prog 67=some true∧kf prog 67=true∧fk prog 67 0=some (0,3)∧fk prog 67 1=some (1,29)∧eO prog 67=some [.v (.int .i64 0),.v (.int .u64 0)]∧prog.cellsOf 74=1)∧(prog.bytesOf 74=24∧fC prog 74=some false∧eO prog 74=some [.v (.slice none 0 0)]∧iZ prog 74=true∧prog.bytesOf 76=32)))))∧(((((fC prog 76=some true∧kf prog 76=true∧fk prog 76 0=some (0,29)∧fk prog 76 1=some (1,74)∧eO prog 76=some [.v (.int .u64 0),.v (.slice none 0 0)]∧prog.bytesOf 78=32)∧(fC prog 78=some true∧kf prog 78=true∧fk prog 78 0=some (0,29)∧fk prog 78 1=some (1,23)∧eO prog 78=some [.v (.int .u64 0),.v (.slice none 0 0)]∧prog.cellsOf 79=1))∧((prog.bytesOf 79=8∧fC prog 79=some false∧eO prog 79=some [.v (.pointer none)]∧qI prog 79=true∧prog.cellsOf 85=1∧prog.bytesOf 85=8)∧(fC prog 85=some false∧eO prog 85=some [.v (.pointer none)]∧qI prog 85=true∧prog.bytesOf 108=24∧fC prog 108=some true∧kf prog 108=true)))∧(((fk prog 108 0=some (0,29)∧fk prog 108 1=some (1,9)∧eO prog 108=some [.v (.int .u64 0),.v (.string ByteArray.empty)]∧prog.cellsOf 137=2∧prog.bytesOf 137=32∧fC prog 137=some true)∧(kf prog 137=true∧fk prog 137 0=some (0,23)∧fk prog 137 1=some (1,4)∧eO prog 137=some [.v (.slice none 0 0),.v (.bool false)]∧prog.cellsOf 145=2∧prog.bytesOf 145=32))∧((fC prog 145=some true∧kf prog 145=true∧fk prog 145 0=some (0,23)∧fk prog 145 1=some (1,34)∧eO prog 145=some [.v (.slice none 0 0),.v (.int .i64 0)]∧prog.cellsOf 185=1)∧(prog.bytesOf 185=8∧fC prog 185=some false∧eO prog 185=some [.v (.int .u64 0)]∧prog.bytesOf 214=4∧fC prog 214=some false))))∧((((prog.bytesOf 215=32∧fC prog 215=some true∧eO prog 215=some [.v (.int .u32 0),.v (.int .u32 0),.v (.int .u32 0),.v (.int .u32 0),.v (.int .u32 0),.v (.int .u32 0),.v (.int .u32 0),.v (.int .u32 0)]∧prog.cellsOf 227=1∧prog.bytesOf 227=24∧fC prog 227=some false)∧(eO prog 227=some [.v (.slice none 0 0)]∧iZ prog 227=true∧prog.cellsOf 232=64∧prog.bytesOf 232=64∧fC prog 232=some true∧prog.bytesOf 236=16))∧((fC prog 236=some true∧eO prog 236=some [.v (.int .u8 0),.v (.int .u8 0),.v (.int .u8 0),.v (.int .u8 0),.v (.int .u8 0),.v (.int .u8 0),.v (.int .u8 0),.v (.int .u8 0),.v (.int .u8 0),.v (.int .u8 0),.v (.int .u8 0),.v (.int .u8 0),.v (.int .u8 0),.v (.int .u8 0),.v (.int .u8 0),.v (.int .u8 0)]∧prog.cellsOf 239=1∧prog.bytesOf 239=8∧fC prog 239=some false∧eO prog 239=some [.v (.int .i64 0)])∧(prog.bytesOf 246=256∧fC prog 246=some true∧prog.bytesOf 252=256∧fC prog 252=some true∧prog.bytesOf 254=176∧fC prog 254=some true)))∧(((prog.bytesOf 264=4∧fC prog 264=some true∧eO prog 264=some [.v (.int .u8 0),.v (.int .u8 0),.v (.int .u8 0),.v (.int .u8 0)]∧b7 prog 8=true∧b7 prog 9=true∧b7 prog 10=true)∧(b7 prog 11=true∧b7 prog 12=true∧b7 prog 13=true∧b7 prog 14=true∧b7 prog 15=true∧b7 prog 16=true))∧((b7 prog 18=true∧b7 prog 19=true∧b7 prog 20=true∧b7 prog 21=true∧b7 prog 23=true∧b7 prog 25=true)∧(b7 prog 26=true∧b7 prog 27=true∧b7 prog 28=true∧b7 prog 29=true∧b7 prog 31=true))))))∧((((((b7 prog 33=true∧b7 prog 35=true∧b7 prog 40=true∧b7 prog 41=true∧b7 prog 42=true∧b7 prog 43=true)∧(b7 prog 44=true∧b7 prog 45=true∧b7 prog 46=true∧b7 prog 47=true∧b7 prog 48=true∧b7 prog 49=true))∧((b7 prog 50=true∧b7 prog 51=true∧b7 prog 52=true∧b7 prog 53=true∧b7 prog 54=true∧b7 prog 55=true)∧(b7 prog 56=true∧b7 prog 57=true∧b7 prog 58=true∧b7 prog 59=true∧b7 prog 60=true∧b7 prog 61=true)))∧(((b7 prog 62=true∧b7 prog 63=true∧b7 prog 64=true∧b7 prog 65=true∧b7 prog 66=true∧b7 prog 67=true)∧(b7 prog 68=true∧b7 prog 69=true∧b7 prog 70=true∧b7 prog 71=true∧b7 prog 73=true∧b7 prog 74=true))∧((b7 prog 76=true∧b7 prog 77=true∧b7 prog 79=true∧b7 prog 81=true∧b7 prog 82=true∧b7 prog 84=true)∧(b7 prog 86=true∧b7 prog 87=true∧b7 prog 88=true∧b7 prog 90=true∧b7 prog 91=true))))∧((((b7 prog 92=true∧b7 prog 94=true∧b7 prog 101=true∧b7 prog 102=true∧b7 prog 103=true∧b7 prog 104=true)∧(b7 prog 105=true∧b7 prog 106=true∧b7 prog 107=true∧b7 prog 108=true∧b7 prog 109=true∧b7 prog 110=true))∧((b7 prog 111=true∧b7 prog 112=true∧b7 prog 113=true∧b7 prog 114=true∧b7 prog 115=true∧b7 prog 116=true)∧(b7 prog 117=true∧b7 prog 118=true∧b7 prog 119=true∧b7 prog 120=true∧b7 prog 121=true∧b7 prog 122=true)))∧(((b7 prog 123=true∧b7 prog 124=true∧b7 prog 125=true∧b7 prog 126=true∧b7 prog 127=true∧b7 prog 128=true)∧(b7 prog 129=true∧b7 prog 130=true∧b7 prog 132=true∧b7 prog 133=true∧b7 prog 134=true∧b7 prog 135=true))∧((b7 prog 136=true∧b7 prog 137=true∧b7 prog 141=true∧b7 prog 142=true∧b7 prog 143=true∧b7 prog 144=true)∧(b7 prog 145=true∧b7 prog 146=true∧b7 prog 147=true∧b7 prog 148=true∧b7 prog 149=true)))))∧(((((b7 prog 150=true∧b7 prog 151=true∧b7 prog 152=true∧b7 prog 153=true∧b7 prog 154=true∧b7 prog 155=true)∧(b7 prog 156=true∧b7 prog 158=true∧b7 prog 159=true∧b7 prog 161=true∧b7 prog 162=true∧b7 prog 164=true))∧((b7 prog 165=true∧b7 prog 166=true∧b7 prog 167=true∧b7 prog 168=true∧b7 prog 169=true∧b7 prog 170=true)∧(b7 prog 171=true∧b7 prog 172=true∧b7 prog 173=true∧b7 prog 174=true∧b7 prog 175=true∧b7 prog 176=true)))∧(((b7 prog 179=true∧b7 prog 180=true∧b7 prog 181=true∧b7 prog 182=true∧b7 prog 183=true∧b7 prog 184=true)∧(b7 prog 185=true∧b7 prog 186=true∧b7 prog 187=true∧b7 prog 188=true∧b7 prog 189=true∧b7 prog 190=true))∧((b7 prog 191=true∧b7 prog 192=true∧b7 prog 193=true∧b7 prog 194=true∧b7 prog 195=true∧b7 prog 196=true)∧(b7 prog 197=true∧b7 prog 198=true∧b7 prog 199=true∧b7 prog 200=true∧b7 prog 201=true))))∧((((b7 prog 202=true∧b7 prog 203=true∧b7 prog 204=true∧b7 prog 205=true∧b7 prog 206=true∧b7 prog 207=true)∧(b7 prog 208=true∧b7 prog 209=true∧b7 prog 210=true∧b7 prog 211=true∧b7 prog 212=true∧b7 prog 213=true))∧((b7 prog 214=true∧b7 prog 215=true∧b7 prog 216=true∧b7 prog 217=true∧b7 prog 218=true∧b7 prog 219=true)∧(b7 prog 220=true∧b7 prog 221=true∧b7 prog 222=true∧b7 prog 223=true∧b7 prog 224=true)))∧(((b7 prog 225=true∧b7 prog 226=true∧b7 prog 227=true∧b7 prog 228=true∧b7 prog 229=true∧b7 prog 230=true)∧(b7 prog 231=true∧b7 prog 233=true∧b7 prog 234=true∧b7 prog 236=true∧b7 prog 238=true∧b7 prog 239=true))∧((b7 prog 240=true∧b7 prog 241=true∧b7 prog 242=true∧b7 prog 249=true∧b7 prog 250=true∧b7 prog 251=true)∧(b7 prog 252=true∧b7 prog 253=true∧b7 prog 255=true∧b7 prog 256=true∧b7 prog 257=true)))))):=by(repeat' apply And.intro)<;>kernel_rfl
end Go.Proofs.YtbiefppedlodiaaGreatDoor
set_option maxRecDepth 100000
namespace Go.Proofs.YtbiefppedlodiaaGreatDoor
open Go Go.AM Go.Proofs Tryz
open And renaming intro->Ai
def TTx:=PLift.up (Ai (Ai (Ai (Ai (Ai (Ai (Ai (Ai (Ai UP DF) @underlying3) (Ai T.c3 T.b3)) (Ai (Ai ntmps173 @underlying5) (Ai T.c5 T.b5))) (Ai (Ai (Ai (Ai T.z5 @underlying29) T.Zh) (Ai @underlying232 ntmps215)) (Ai (Ai @underlying185 @underlying214) (Ai T.J8 T.xbH)))) (Ai (Ai (Ai (Ai (Ai ntmps184 @underlying4) ntmps152) (Ai ntmps183 ntmps151)) (Ai (Ai ntmps150 ntmps128) (Ai ntmps148 ntmps149))) (Ai (Ai (Ai ntmps106 @underlying24) (Ai T.MR ntmps47)) (Ai (Ai ntmps115 ntmps125) (Ai ntmps76 ntmps116))))) (Ai (Ai (Ai (Ai (Ai (Ai ntmps54 ntmps65) ntmps112) (Ai ntmps110 ntmps160)) (Ai (Ai ntmps157 ntmps192) (Ai ntmps158 @underlying9))) (Ai (Ai (Ai ntmps230 ntmps194) (Ai ntmps220 @underlying239)) (Ai (Ai ntmps193 ntmps159) (Ai ntmps111 ntmps127)))) (Ai (Ai (Ai (Ai (Ai ntmps69 ntmps105) @underlying23) (Ai T.LR ntmps90)) (Ai (Ai @underlying137 ntmps133) (Ai ntmps31 @underlying79))) (Ai (Ai (Ai ntmps135 ntmps88) (Ai ntmps145 ntmps219)) (Ai (Ai ntmps86 ntmps175) (Ai ntmps134 ntmps87)))))) (Ai (Ai (Ai (Ai (Ai (Ai (Ai ntmps136 ntmps33) @underlying34) (Ai @underlying145 ntmps35)) (Ai (Ai ntmps176 @underlying85) (Ai ntmps137 ntmps217))) (Ai (Ai (Ai (Ai ntmps94 ntmps91) ntmps92) (Ai ntmps67 ntmps44)) (Ai (Ai ntmps53 ntmps62) (Ai ntmps231 ntmps123)))) (Ai (Ai (Ai (Ai (Ai @underlying54 T.HQ) T.b54) (Ai T.z54 ntmps195)) (Ai (Ai ntmps60 ntmps197) (Ai ntmps196 ntmps161))) (Ai (Ai (Ai ntmps63 ntmps236) (Ai ntmps211 @underlying22)) (Ai (Ai T.Vw ntmps104) (Ai ntmps142 ntmps144))))) (Ai (Ai (Ai (Ai (Ai (Ai ntmps143 ntmps71) ntmps179) (Ai ntmps178 ntmps141)) (Ai (Ai ntmps101 ntmps20) (Ai ntmps21 ntmps66))) (Ai (Ai (Ai ntmps64 ntmps16) (Ai ntmps51 ntmps45)) (Ai (Ai ntmps73 ntmps84) (Ai ntmps70 ntmps40)))) (Ai (Ai (Ai (Ai (Ai ntmps52 ntmps46) ntmps56) (Ai ntmps13 ntmps250)) (Ai (Ai ntmps234 ntmps249) (Ai ntmps210 @underlying227))) (Ai (Ai (Ai ntmps208 @underlying246) (Ai T.xbJ ntmps233)) (Ai (Ai @underlying215 T.xbI) (Ai ntmps200 ntmps216))))))) (Ai (Ai (Ai (Ai (Ai (Ai (Ai (Ai @underlying50 ntmps186) ntmps199) (Ai ntmps232 ntmps198)) (Ai (Ai ntmps164 ntmps209) (Ai ntmps170 ntmps235))) (Ai (Ai (Ai (Ai ntmps237 ntmps163) ntmps162) (Ai ntmps201 ntmps202)) (Ai (Ai ntmps113 ntmps171) (Ai ntmps172 ntmps121)))) (Ai (Ai (Ai (Ai (Ai ntmps165 ntmps122) ntmps114) (Ai ntmps129 ntmps77)) (Ai (Ai ntmps124 ntmps61) (Ai ntmps23 ntmps26))) (Ai (Ai (Ai ntmps191 ntmps156) (Ai ntmps109 @underlying30)) (Ai (Ai @underlying32 T.c32) (Ai @underlying74 @underlying76))))) (Ai (Ai (Ai (Ai (Ai (Ai T.c76 @underlying78) T.c78) (Ai ntmps12 @underlying51)) (Ai (Ai ntmps50 ntmps15) (Ai ntmps59 ntmps213))) (Ai (Ai (Ai ntmps180 ntmps203) (Ai ntmps166 ntmps212)) (Ai (Ai ntmps185 ntmps146) (Ai ntmps117 ntmps102)))) (Ai (Ai (Ai (Ai (Ai ntmps57 ntmps42) ntmps29) (Ai ntmps252 ntmps257)) (Ai (Ai ntmps255 ntmps256) (Ai ntmps251 @underlying252))) (Ai (Ai (Ai T.xbK ntmps239) (Ai @underlying236 T.VC)) (Ai (Ai ntmps241 @underlying264) (Ai T.xbM ntmps253)))))) (Ai (Ai (Ai (Ai (Ai (Ai (Ai ntmps242 @underlying254) T.xbL) (Ai ntmps240 ntmps218)) (Ai (Ai ntmps238 ntmps204) (Ai ntmps206 ntmps205))) (Ai (Ai (Ai ntmps207 ntmps168) (Ai ntmps169 ntmps120)) (Ai (Ai ntmps189 ntmps188) (Ai ntmps190 ntmps155)))) (Ai (Ai (Ai (Ai (Ai ntmps174 ntmps182) ntmps181) (Ai ntmps147 ntmps103)) (Ai (Ai ntmps126 ntmps68) (Ai ntmps187 ntmps41))) (Ai (Ai (Ai ntmps18 ntmps43) (Ai ntmps19 ntmps167)) (Ai (Ai ntmps154 ntmps119) (Ai ntmps153 ntmps118))))) (Ai (Ai (Ai (Ai (Ai (Ai ntmps107 @underlying108) T.xbG) (Ai ntmps58 ntmps132)) (Ai (Ai ntmps49 ntmps55) (Ai ntmps25 ntmps28))) (Ai (Ai (Ai @underlying33 @underlying67) (Ai ntmps130 ntmps81)) (Ai (Ai ntmps82 ntmps131) (Ai ntmps83 ntmps78)))) (Ai (Ai (Ai (Ai (Ai ntmps80 ntmps108) ntmps74) (Ai ntmps79 ntmps27)) (Ai (Ai ntmps48 ntmps10) (Ai ntmps8 @underlying26))) (Ai (Ai (Ai T.XG ntmps9) (Ai ntmps14 @underlying38)) (Ai (Ai T.c38 ntmps11) (Ai ntmps3 TF))))))))
theorem TT:type_of%TTx.1:=TTx.1
def DMx:=PLift.up (Ai @fM @fi)
theorem DM:type_of%DMx.1:=DMx.1
section
variable{P:Program}{Γ:Nat->List AV}{N:Nat}{Q:Exit->Env->AS->Prop}{E E':Env}{s s':AS}{id:Nat}{L:List Oper}{x y:Code}{c:Operand}{H Z:Prop}{O:Array Oper}{W:Env->AS->Prop}{M:(Env->AS->Prop)->Prop}{f:FuncId}{ags:List AV}{v:AV}{s0 s2:AS}{E2:AS->Env}{s3:AS->AS}
theorem jA(k:fY P Γ N y Q E' s')(h:∀K:Env->AS->Prop,K E' s'->AY P Γ N L.toArray L K E s:=by(intro K hK;simp only[↓DN,Qa,Qb,Qc,Qd,Qe,Qf,Qg,Qh,reduceCtorEq,↓reduceIte,Na,Nb,Nc,Nk,Nf,Ng,Nh,Za,Zb,Zc,TT];exact hK)):fY P Γ N (.seq (.region id L.toArray false) y) Q E s:=wS fun K hK=>h K (hK _ _ k)
theorem jB(a:H)(k:fY P Γ N y Q E' s')(h:H->∀K:Env->AS->Prop,K E' s'->AY P Γ N L.toArray L K E s:=by(intro a K hK;simp only[↓DN,Qa,Qb,Qc,Qd,Qe,Qf,Qg,Qh,reduceCtorEq,↓reduceIte,Na,Nb,Nc,Nk,Nf,Ng,Nh,Za,Zb,Zc,TT,a];exact hK)):fY P Γ N (.seq (.region id L.toArray false) y) Q E s:=wS fun K hK=>h a K (hK _ _ k)
theorem jC(k:Q .normal E' s')(h:∀K:Env->AS->Prop,K E' s'->AY P Γ N L.toArray L K E s:=by(intro K hK;simp only[↓DN,Qa,Qb,Qc,Qd,Qe,Qf,Qg,Qh,reduceCtorEq,↓reduceIte,Na,Nb,Nc,Nk,Nf,Ng,Nh,Za,Zb,Zc,TT];exact hK)):fY P Γ N (.region id L.toArray false) Q E s:=wE fun K hK=>h K (hK _ _ k)
theorem jD(a:H)(k:Q .normal E' s')(h:H->∀K:Env->AS->Prop,K E' s'->AY P Γ N L.toArray L K E s:=by(intro a K hK;simp only[↓DN,Qa,Qb,Qc,Qd,Qe,Qf,Qg,Qh,reduceCtorEq,↓reduceIte,Na,Nb,Nc,Nk,Nf,Ng,Nh,Za,Zb,Zc,TT,a];exact hK)):fY P Γ N (.region id L.toArray false) Q E s:=wE fun K hK=>h a K (hK _ _ k)
theorem jE(k:fY P Γ N x Q E s)(h:∀X Y:Prop,X->match ef Γ E c with |.v (.bool t)=>(t=true->X)∧(t=false->Y)|_=>False:=by(intro X Y hX;simp only[UP,DF,Nc,↓reduceIte,DB];exact hX)):fY P Γ N (.cond c x y) Q E s:=wC fun X Y hX hY=>h X Y (hX k)
theorem jF(k:fY P Γ N y Q E s)(h:∀X Y:Prop,Y->match ef Γ E c with |.v (.bool t)=>(t=true->X)∧(t=false->Y)|_=>False:=by(intro X Y hX;simp only[UP,DF,Nc,↓reduceIte,DB];exact hX)):fY P Γ N (.cond c x y) Q E s:=wC fun X Y hX hY=>h X Y (hY k)
theorem jG(a:H)(k:fY P Γ N x Q E s)(h:H->∀X Y:Prop,X->match ef Γ E c with |.v (.bool t)=>(t=true->X)∧(t=false->Y)|_=>False:=by(intro a X Y hX;simp only[UP,DF,Nc,↓reduceIte,DB,a];exact hX)):fY P Γ N (.cond c x y) Q E s:=wC fun X Y hX hY=>h a X Y (hX k)
theorem jH(a:H)(k:fY P Γ N y Q E s)(h:H->∀X Y:Prop,Y->match ef Γ E c with |.v (.bool t)=>(t=true->X)∧(t=false->Y)|_=>False:=by(intro a X Y hX;simp only[UP,DF,Nc,↓reduceIte,DB,a];exact hX)):fY P Γ N (.cond c x y) Q E s:=wC fun X Y hX hY=>h a X Y (hY k)
theorem jI(k:Z)(h:Z->Q .ret E s:=by(intro hz;(try simp only[dJ,dn]);simp only[fX,fe,fq,iu,List.toList_toArray,↓eL];(try simp only[UP,DF,Nc,↓reduceIte,DT]);exact hz)):fY P Γ N .ret Q E s:=eF (h k)
theorem jJ(h:Q .ret E s:=by((try simp only[dJ,dn]);simp only[fX,fe,fq,iu,List.toList_toArray,↓eL];(try simp only[UP,DF,Nc,↓reduceIte,DT]);exact⟨_,_,AV.dV.refl _,AS.le.refl _,rfl,rfl⟩)):fY P Γ N .ret Q E s:=eF h
theorem jK(a:dS P Γ f ags s0 fun r s'=>r=v∧s'=s2)(k:∀s1,s1=s2->fY P Γ N y Q (E2 s1) (s3 s1))(h:(dS P Γ f ags s0 fun r s'=>r=v∧s'=s2)->∀K:Env->AS->Prop,(∀s1,s1=s2->K (E2 s1) (s3 s1))->AY P Γ N L.toArray L K E s:=by(intro a K hK;simp only[↓DN,Qa,Qb,Qc,Qd,Qe,Qf,Qg,Qh,reduceCtorEq,↓reduceIte,Na,Nb,Nc,Nk,Nf,Ng,Nh,Za,Zb,Zc,TT];refine b6 a ?_;rintro _ s1 ⟨rfl,e⟩;simp only[↓DM,eZ,DX,Nz,↓DN,Qa,Qb,Qc,Qd,Qe,Qf,Qg,Qh,reduceCtorEq,↓reduceIte,Na,Nb,Nc,Nk,Nf,Ng,Nh,Za,Zb,Zc,TT];exact hK s1 e)):fY P Γ N (.seq (.region id L.toArray false) y) Q E s:=wS fun K hK=>h a K fun s1 e=>hK _ _ (k s1 e)
theorem jL(a:dS P Γ f ags s0 fun r s'=>r=v∧s'=s2)(k:∀s1,s1=s2->Q .normal (E2 s1) (s3 s1))(h:(dS P Γ f ags s0 fun r s'=>r=v∧s'=s2)->∀K:Env->AS->Prop,(∀s1,s1=s2->K (E2 s1) (s3 s1))->AY P Γ N L.toArray L K E s:=by(intro a K hK;simp only[↓DN,Qa,Qb,Qc,Qd,Qe,Qf,Qg,Qh,reduceCtorEq,↓reduceIte,Na,Nb,Nc,Nk,Nf,Ng,Nh,Za,Zb,Zc,TT];refine b6 a ?_;rintro _ s1 ⟨rfl,e⟩;simp only[↓DM,eZ,DX,Nz,↓DN,Qa,Qb,Qc,Qd,Qe,Qf,Qg,Qh,reduceCtorEq,↓reduceIte,Na,Nb,Nc,Nk,Nf,Ng,Nh,Za,Zb,Zc,TT];exact hK s1 e)):fY P Γ N (.region id L.toArray false) Q E s:=wE fun K hK=>h a K fun s1 e=>hK _ _ (k s1 e)
theorem jQ(k:∀K:Env->AS->Prop,(∀E s,fY P Γ N y Q E s->K E s)->M K)(h:∀K:Env->AS->Prop,M K->AY P Γ N L.toArray L K E s:=by(intro K hz;simp only[↓DN,Qa,Qb,Qc,Qd,Qe,Qf,Qg,Qh,reduceCtorEq,↓reduceIte,Na,Nb,Nc,Nk,Nf,Ng,Nh,Za,Zb,Zc,TT];exact hz)):fY P Γ N (.seq (.region id L.toArray false) y) Q E s:=wS fun K hK=>h K (k K hK)
theorem jS(a:H)(k:∀K:Env->AS->Prop,(∀E s,fY P Γ N y Q E s->K E s)->M K)(h:H->∀K:Env->AS->Prop,M K->AY P Γ N L.toArray L K E s:=by(intro a K hz;simp only[↓DN,Qa,Qb,Qc,Qd,Qe,Qf,Qg,Qh,reduceCtorEq,↓reduceIte,Na,Nb,Nc,Nk,Nf,Ng,Nh,Za,Zb,Zc,TT,a];exact hz)):fY P Γ N (.seq (.region id L.toArray false) y) Q E s:=wS fun K hK=>h a K (k K hK)
theorem jT(k:∀K:Env->AS->Prop,(∀E s,Q .normal E s->K E s)->M K)(h:∀K:Env->AS->Prop,M K->AY P Γ N L.toArray L K E s:=by(intro K hz;simp only[↓DN,Qa,Qb,Qc,Qd,Qe,Qf,Qg,Qh,reduceCtorEq,↓reduceIte,Na,Nb,Nc,Nk,Nf,Ng,Nh,Za,Zb,Zc,TT];exact hz)):fY P Γ N (.region id L.toArray false) Q E s:=wE fun K hK=>h K (k K hK)
theorem jU(a:H)(k:∀K:Env->AS->Prop,(∀E s,Q .normal E s->K E s)->M K)(h:H->∀K:Env->AS->Prop,M K->AY P Γ N L.toArray L K E s:=by(intro a K hz;simp only[↓DN,Qa,Qb,Qc,Qd,Qe,Qf,Qg,Qh,reduceCtorEq,↓reduceIte,Na,Nb,Nc,Nk,Nf,Ng,Nh,Za,Zb,Zc,TT,a];exact hz)):fY P Γ N (.region id L.toArray false) Q E s:=wE fun K hK=>h a K (k K hK)
theorem jR{K:Env->AS->Prop}(hK:∀E s,W E s->K E s)(k:W E' s')(h:K E' s'->Z:=by(intro hK;simp only[↓DM,eZ,DX,Nz,↓DN,Qa,Qb,Qc,Qd,Qe,Qf,Qg,Qh,reduceCtorEq,↓reduceIte,Na,Nb,Nc,Nk,Nf,Ng,Nh,Za,Zb,Zc,TT];exact hK)):Z:=h (hK _ _ k)
theorem jV{K:Env->AS->Prop}(a:H)(hK:∀E s,W E s->K E s)(k:W E' s')(h:H->K E' s'->Z:=by(intro a hK;simp only[↓DM,eZ,DX,Nz,↓DN,Qa,Qb,Qc,Qd,Qe,Qf,Qg,Qh,reduceCtorEq,↓reduceIte,Na,Nb,Nc,Nk,Nf,Ng,Nh,Za,Zb,Zc,TT,a];exact hK)):Z:=h a (hK _ _ k)
end
theorem jM{A Z:Prop}(k:A)(h:A->Z:=by(intro hA;simp only[↓DM,eZ,DX,Nz,↓DN,Qa,Qb,Qc,Qd,Qe,Qf,Qg,Qh,reduceCtorEq,↓reduceIte,Na,Nb,Nc,Nk,Nf,Ng,Nh,Za,Zb,Zc,TT];exact hA)):Z:=h k
theorem jN{A Z H:Prop}(a:H)(k:A)(h:H->A->Z:=by(intro a hA;simp only[↓DM,eZ,DX,Nz,↓DN,Qa,Qb,Qc,Qd,Qe,Qf,Qg,Qh,reduceCtorEq,↓reduceIte,Na,Nb,Nc,Nk,Nf,Ng,Nh,Za,Zb,Zc,TT,a];exact hA)):Z:=h a k
theorem jO{A Z:Prop}(k:A)(h:A->Z:=by(intro hA;simp only[↓DN,Qa,Qb,Qc,Qd,Qe,Qf,Qg,Qh,reduceCtorEq,↓reduceIte,Na,Nb,Nc,Nk,Nf,Ng,Nh,Za,Zb,Zc,TT];exact hA)):Z:=h k
theorem jP{A Z H:Prop}(a:H)(k:A)(h:H->A->Z:=by(intro a hA;simp only[↓DN,Qa,Qb,Qc,Qd,Qe,Qf,Qg,Qh,reduceCtorEq,↓reduceIte,Na,Nb,Nc,Nk,Nf,Ng,Nh,Za,Zb,Zc,TT,a];exact hA)):Z:=h a k
theorem jW{v:AV}{s:AS}{R:AV->AS->Prop}(h:R v s):∃r s',v.dV r∧s'.le s∧R r s':=⟨_,_,AV.dV.refl _,AS.le.refl _,h⟩
theorem yd{Z G:Prop}(k:Z)(h:Z->G:=by(intro k;refine jA ?_;refine wK fun K1 iW=>?_;revert K1 iW;exact k)):G:=h k
theorem gW{Z G:Prop}(k:Z)(h:Z->G:=by(intro k;refine jF ?_;refine dX ?_;exact k)):G:=h k
theorem Q1{Z G:Prop}(k:Z)(h:Z->G:=by(intro k;refine jA ?_;refine wK fun K1 iW=>?_;refine jQ fun K2 eH=>?_;revert K1 iW K2 eH;exact k)):G:=h k
theorem mS{Z G:Prop}(k:Z)(h:Z->G:=by(intro k;refine jE ?_;refine jA ?_;refine jI ?_;exact k)):G:=h k
theorem wq{Z G:Prop}(k:Z)(h:Z->G:=by(intro k;refine jA ?_;refine jI ?_;exact k)):G:=h k
theorem ue{Z G:Prop}(k:Z)(h:Z->G:=by(intro k;refine jE ?_;refine dX ?_;exact k)):G:=h k
theorem nF{Z G:Prop}(k:Z)(h:Z->G:=by(intro k;refine wK fun K0 xy=>?_;refine dH ?_;revert K0 xy;exact k)):G:=h k
theorem sI{Z G:Prop}(k:Z)(h:Z->G:=by(intro k;refine jF ?_;refine ep ?_;exact k)):G:=h k
theorem Q2{Z G:Prop}(k:Z)(h:Z->G:=by(intro k;refine jA ?_;refine wK fun K1 iW=>?_;refine jA ?_;refine dH ?_;revert K1 iW;exact k)):G:=h k
theorem Ot{Z G:Prop}(k:Z)(h:Z->G:=by(intro k;refine jE ?_;refine jA ?_;exact k)):G:=h k
theorem Zi{Z G:Prop}(k:Z)(h:Z->G:=by(intro k;refine jA ?_;refine jA ?_;exact k)):G:=h k
theorem xKl{Z G:Prop}(k:Z)(h:Z->G:=by(intro k;refine jA ?_;refine dH ?_;exact k)):G:=h k
theorem Ja{Z G:Prop}(k:Z)(h:Z->G:=by(intro k;refine wK fun K0 xy=>?_;refine jE ?_;refine dX ?_;revert K0 xy;exact k)):G:=h k
theorem Jb{Z G:Prop}(k:Z)(h:Z->G:=by(intro k;refine wK fun K0 xy=>?_;refine jF ?_;refine ep ?_;revert K0 xy;exact k)):G:=h k
theorem xKo{Z G:Prop}(k:Z)(h:Z->G:=by(intro k;refine jA ?_;refine jA ?_;refine wK fun K2 eH=>?_;revert K2 eH;exact k)):G:=h k
theorem xKp{Z G:Prop}(k:Z)(h:Z->G:=by(intro k;refine jA ?_;refine jA ?_;refine jA ?_;refine jA ?_;refine jA ?_;refine jA ?_;refine jA ?_;refine jA ?_;refine jA ?_;refine jA ?_;exact k)):G:=h k
theorem UK{Z G:Prop}(k:Z)(h:Z->G:=by(intro k;refine wK fun K0 xy=>?_;refine jQ fun K1 iW=>?_;revert K0 xy K1 iW;exact k)):G:=h k
theorem Q3{Z G:Prop}(k:Z)(h:Z->G:=by(intro k;refine wK fun K0 xy=>?_;refine jA ?_;refine jF ?_;refine dX ?_;revert K0 xy;exact k)):G:=h k
theorem xKs{Z G:Prop}(k:Z)(h:Z->G:=by(intro k;refine wK fun K0 xy=>?_;refine jA ?_;refine jE ?_;refine jA ?_;revert K0 xy;exact k)):G:=h k
theorem UL{Z G:Prop}(k:Z)(h:Z->G:=by(intro k;refine jA ?_;refine jA ?_;refine wK fun K2 eH=>?_;refine jA ?_;refine dH ?_;revert K2 eH;exact k)):G:=h k
theorem Jc{Z G:Prop}(k:Z)(h:Z->G:=by(intro k;refine wK fun K0 xy=>?_;refine jA ?_;refine dH ?_;revert K0 xy;exact k)):G:=h k
theorem xKv{Z G:Prop}(k:Z)(h:Z->G:=by(intro k;refine jA ?_;refine jF ?_;refine dX ?_;exact k)):G:=h k
theorem xKw{Z G:Prop}(k:Z)(h:Z->G:=by(intro k;refine jA ?_;refine wK fun K1 iW=>?_;refine jA ?_;revert K1 iW;exact k)):G:=h k
theorem xKx{Z G:Prop}(k:Z)(h:Z->G:=by(intro k;refine wK fun K0 xy=>?_;refine jA ?_;revert K0 xy;exact k)):G:=h k
theorem xKy{Z G:Prop}(k:Z)(h:Z->G:=by(intro k;refine wK fun K0 xy=>?_;refine jA ?_;refine jE ?_;refine jA ?_;refine jI ?_;revert K0 xy;exact k)):G:=h k
theorem xKz{Z G:Prop}(k:Z)(h:Z->G:=by(intro k;refine wK fun K0 xy=>?_;refine jA ?_;refine jE ?_;revert K0 xy;exact k)):G:=h k
theorem xY{P:Program}{Γ:Nat->List AV}{N:Nat}{Q:Exit->Env->AS->Prop}{E:Env}{s:AS}{x y:Code}{c:Operand}{H:Prop}(a:H)(k:fY P Γ N x Q E s)(h:H->∀X Y:Prop,X->match ef Γ E c with |.v (.bool t)=>(t=true->X)∧(t=false->Y)|_=>False:=by(intro a X Y hX;simp only[↓DN,Qa,Qb,Qc,Qd,Qe,Qf,Qg,Qh,reduceCtorEq,↓reduceIte,Na,Nb,Nc,Nk,Nf,Ng,Nh,Za,Zb,Zc,TT,DB,a];exact hX)):fY P Γ N (.cond c x y) Q E s:=wC fun X Y hX hY=>h a X Y (hX k)
theorem xZ{P:Program}{Γ:Nat->List AV}{N:Nat}{Q:Exit->Env->AS->Prop}{E:Env}{s:AS}{x y:Code}{c:Operand}{H:Prop}(a:H)(k:fY P Γ N y Q E s)(h:H->∀X Y:Prop,Y->match ef Γ E c with |.v (.bool t)=>(t=true->X)∧(t=false->Y)|_=>False:=by(intro a X Y hX;simp only[↓DN,Qa,Qb,Qc,Qd,Qe,Qf,Qg,Qh,reduceCtorEq,↓reduceIte,Na,Nb,Nc,Nk,Nf,Ng,Nh,Za,Zb,Zc,TT,DB,a];exact hX)):fY P Γ N (.cond c x y) Q E s:=wC fun X Y hX hY=>h a X Y (hY k)
abbrev aI(P:Program)(Γ:Nat->List AV)(f:FuncId)(a:List AV)(s:AS)(v:AV):Prop:=dS P Γ f a s fun r s'=>r=v∧s'=s
theorem xH{P:Program}{Γ:Nat->List AV}{f:FuncId}{fn:Func}{c:Code}{rs:Array ResultVar}{N:Nat}{a:List AV}{Q:AV->AS->Prop}{s:AS}(hf:P.funcs[f]? =some fn)(hN:fn.ntmps=N)(QW:fn.results=rs)(h:fY P Γ N c (fX P rs.toList Q) (eV a) s)(hb:fn.body=some c:=by rfl)(hn:a.length<=N:=by simp):dS P Γ f a s Q:=fm hf hb hN QW hn h
end Go.Proofs.YtbiefppedlodiaaGreatDoor
namespace Go.AM
open Go
def ed(n:Int):AV:=.v (.int .i64 n)
def ea(l:List Int)(sp:Sp):AV:=.sl 1 l.length (l.map ed) sp
theorem jt{l:List Int}{i:Nat}(h:i<l.length):aD 1 (aK i (l.map ed))=[.v (.int .i64 l[i])]:=by
  rw[List.drop_eq_getElem_cons (by simpa using h)];simp[ed]
theorem kI.ints{nA:List AV}(h:kI (.slice 1 Hy) nA):∃l:List Int,nA=[ea l .any]:=by
  obtain⟨els,rfl,_,fG⟩:=kI.rows h;have key:∀els:List (List AV),(∀el∈els,el.length=1∧kI Hy el)->∃l:List Int,l.length=els.length∧els.flatten=l.map ed:=by
    intro els;induction els with
    |nil=>intro _;exact⟨[],rfl,rfl⟩
    |cons e els ih=>
      intro h;obtain⟨l,h1,h2⟩:=ih (fun el B3=>h el (by simp[B3]));obtain⟨_,t⟩:=h e sM;obtain⟨n,rfl,_⟩:=ve t;exact⟨n::l,by simp[h1],by simp[h2,ed]⟩
  obtain⟨l,h1,h2⟩:=key els fG;exact⟨l,by rw[<-h1,h2];rfl⟩
theorem yO{α:Type}{a b:List α}{i:Nat}(ha:i<a.length)(hb:i<b.length)(h:a.take i=b.take i)(e:a[i]=b[i]):a.take (i+1)=b.take (i+1):=by
  rw[af ha,af hb,h,e]
structure cH where
  kind:Int
  name:List UInt8
  key:Nat
  parent:List UInt8
  nS:List Int
  deriving DecidableEq
def cH.cells(n:cH):List AV:=[.v (.int .i64 n.kind),dm n.name .any,.v (.int .u64 n.key),dm n.parent .any,ea n.nS .any]
def cH.nr:cH:=⟨0,[],0,[],[]⟩
theorem yP(k k':Int)(m m' p p':List UInt8)(y y':Nat)(u u':List Int):
    decide ((⟨k,m,y,p,u⟩:cH)=⟨k',m',y',p',u'⟩)=((k==k')&&(((y:Int)==(y':Int))&&(decide (m=m')&&(decide (p=p')&&decide (u=u'))))):=by
  rw[Bool.eq_iff_iff,decide_eq_true_iff];simp only[cH.mk.injEq,Bool.and_eq_true,beq_iff_eq,decide_eq_true_eq,Int.natCast_inj];constructor
  · rintro⟨h1,h2,h3,h4,h5⟩;exact⟨h1,h3,h2,h4,h5⟩
  · rintro⟨h1,h3,h2,h4,h5⟩;exact⟨h1,h2,h3,h4,h5⟩
theorem kI.node{nA:List AV}(h:kI (.struct (.cons Hy (.cons I7 (.cons (.int .u64) (.cons I7 (.cons (.slice 1 Hy) .nil)))))) nA):∃N:cH,nA=N.cells∧N.key<2^64:=by
  obtain⟨x1,y1,rfl,t1,h⟩:=lN (Br h);obtain⟨x2,y2,rfl,t2,h⟩:=lN h;obtain⟨x3,y3,rfl,t3,h⟩:=lN h;obtain⟨x4,y4,rfl,t4,h⟩:=lN h;obtain⟨x5,y5,rfl,t5,h⟩:=lN h;obtain rfl:=Oi h;obtain⟨n1,rfl,_⟩:=ve t1;obtain⟨l2,rfl,_⟩:=t2.bytes;obtain⟨n3,rfl,w3⟩:=ve t3;obtain⟨m3,rfl,h3⟩:=Vi w3;obtain⟨l4,rfl,_⟩:=t4.bytes;obtain⟨l5,rfl⟩:=t5.ints;exact⟨⟨n1,l2,m3,l4,l5⟩,rfl,h3⟩
def AA(l:List Int)(i:Nat):Prop:=0<=l.getD i 0∧l.getD i 0<32∧(0<i->l.getD (i-1) 0<l.getD i 0)
instance xeB(l:List Int)(i:Nat):Decidable (AA l i):=by unfold AA;infer_instance
def oL(l:List Int):Prop:=∀i,i<l.length->AA l i
instance xaS(l:List Int):Decidable (oL l):=by unfold oL;infer_instance
theorem yQ{l:List Int}{i:Nat}(h:i<l.length)(h1:0<=l[i])(h2:l[i]<32)(h3:∀k:0<i,l[i-1]<l[i]):AA l i:=by
  unfold AA;have e:l.getD i 0=l[i]:=(by simp[bm,h]);refine⟨by rw[e];exact h1,by rw[e];exact h2,fun k=>?_⟩;have e2:l.getD (i-1) 0=l[i-1]:=(by simp[bm,show i-1<l.length by omega]);rw[e,e2];exact h3 k
theorem qX{l:List Int}{i:Nat}(h:i<l.length)(k:AA l i):0<=l[i]∧l[i]<32∧(∀q:0<i,l[i-1]<l[i]):=by
  unfold AA at k;have e:l.getD i 0=l[i]:=(by simp[bm,h]);rw[e] at k;refine⟨k.1,k.2.1,fun q=>?_⟩;have e2:l.getD (i-1) 0=l[i-1]:=(by simp[bm,show i-1<l.length by omega]);have:=k.2.2 q;rwa [e2] at this
def cH.held(N:cH):Prop:=2<=N.key∧N.key<=2305843009213693949∧(N.parent.length=0∨N.parent.length=32)
instance XH(N:cH):Decidable N.held:=by unfold cH.held;infer_instance
def cH.right(N:cH):Prop:=
  if N.kind=0 then N=cH.nr
  else if N.kind=1 then(1<=N.name.length∧N.name.length<=16∧N.held∧N.nS.length=0)
  else if N.kind=2 then(N.name.length=0∧N.held∧oL N.nS)
  else False
instance VD(N:cH):Decidable N.right:=by unfold cH.right;infer_instance
theorem qY{N:cH}(h:N.kind=0):N.right↔N=cH.nr:=by unfold cH.right;rw[if_pos h]
theorem lk{N:cH}(h:N.kind=1):N.right↔(1<=N.name.length∧N.name.length<=16∧N.held∧N.nS.length=0):=by unfold cH.right;rw[if_neg oM,if_pos h]
theorem me{N:cH}(h:N.kind=2):N.right↔(N.name.length=0∧N.held∧oL N.nS):=by unfold cH.right;rw[if_neg oM,if_neg oM,if_pos h]
theorem Du{N:cH}(h0:N.kind≠0)(h1:N.kind≠1)(h2:N.kind≠2):¬N.right:=by unfold cH.right;rw[if_neg h0,if_neg h1,if_neg h2];exact id
structure Rec where
  kind:Int
  group:List UInt8
  nT:Int
  time:Int
  bucket:Int
  body:List UInt8
  tree:List UInt8
  script:List UInt8
  wrapped:List UInt8
  deriving DecidableEq
def Rec.cells(r:Rec):List AV:=[.v (.int .i64 r.kind),dm r.group .any,.v (.int .i64 r.nT),.v (.int .i64 r.time),.v (.int .i64 r.bucket),dm r.body .any,dm r.tree .any,dm r.script .any,dm r.wrapped .any]
def Rec.nr:Rec:=⟨0,[],0,0,0,[],[],[],[]⟩
def Rec.right(r:Rec):Prop:=
  1<=r.kind∧r.kind<=3∧1<=r.group.length∧r.group.length<=16∧0<=r.nT∧r.nT<=1048576∧0<=r.time∧r.time<=1099511627776∧0<=r.bucket∧r.bucket<=1099511627776∧r.body.length<=60000∧
    r.tree.length=(if r.kind=3 then 0 else 32)∧r.script.length=(if r.kind=3 then 0 else 32)∧r.wrapped.length=(if r.kind=3 then 0 else 48)
instance(r:Rec):Decidable r.right:=by unfold Rec.right;infer_instance
def Rec.text(r:Rec):List UInt8:=
  be 1 r.kind.toNat++(be 1 r.group.length++r.group++(be 8 r.nT.toNat++(be 8 r.time.toNat++(be 8 r.bucket.toNat++
    (be 2 r.body.length++r.body++(be 1 r.tree.length++r.tree++(be 1 r.script.length++r.script++(be 1 r.wrapped.length++r.wrapped++[]))))))))
theorem xz(k n:Nat)(st:List UInt8×Bool):jX k n st=jY (be k n) st:=rfl
theorem mf{k n:Nat}(h:n<256^k)(st:List UInt8×Bool):eP k (n:Int) st=jY (be k n) st:=by
  have e:(256:Nat)^k=2^(8*k):=(by rw[Nat.pow_mul]);have hh:(n:Int)<2^(8*k):=by
    rw[e] at h;exact_mod_cast h
  unfold eP;rw[if_pos ⟨oM,hh⟩];simp only[aC,xz]
theorem lP(a b:List UInt8)(st:List UInt8×Bool):jY a (jY b st)=jY (b++a) st:=by
  unfold jY;by_cases h:st.2=true
  · simp[h]
  · simp[h]
theorem vq{k:Nat}{m:List UInt8}(h:m.length<256^k)(st:List UInt8×Bool):iM k m st=jY (be k m.length++m) st:=by
  unfold iM;rw[mf h,lP]
def ko(l:List Int):List UInt8:=(l.map fun x=>be 1 x.toNat).flatten
def cH.text(N:cH):List UInt8:=
  if N.kind=0 then be 1 0
  else if N.kind=1 then be 1 1++(be 1 N.name.length++N.name)++be 8 N.key++(be 1 N.parent.length++N.parent)
  else be 1 2++be 8 N.key++(be 1 N.parent.length++N.parent)++be 1 N.nS.length++ko N.nS
theorem Gs{l:List Int}(h:oL l):∀i,i<l.length->(i:Int)<=l.getD i 0
  |0,k=>(h 0 k).1
  |i+1,k=>by
    have:=Gs h i oM;have h3:=(h (i+1) k).2.2 oM;simp only[Nat.add_sub_cancel] at h3;omega
theorem tF{l:List Int}(h:oL l):l.length<=32:=by
  by_cases k:l.length=0
  · omega
  · have h1:=Gs h (l.length-1) oM;have h2:=(h (l.length-1) oM).2.1;omega
theorem xA{l:List Int}(h:oL l){x:Int}(hx:x∈l):0<=x∧x<32:=by
  obtain⟨i,hi,rfl⟩:=List.getElem_of_mem hx;have:=qX hi (h i hi);exact⟨this.1,this.2.1⟩
theorem qg:∀(l:List Int),(ko l).length=l.length
  |[]=>rfl
  |x::l=>by
    have:=qg l;simp only[ko,List.map_cons,List.flatten_cons,List.length_append,ga,List.length_cons] at *
    omega
theorem wR(l:List Int)(x:Int):ko (l++[x])=ko l++be 1 x.toNat:=by
  simp[ko]
theorem HR:cH.nr.right:=dM
theorem oN{N:cH}(h:N.right):N.kind=0∨N.kind=1∨N.kind=2:=by
  unfold cH.right at h;split at h
  · left;assumption
  · split at h
    · right;left;assumption
    · split at h
      · right;right;assumption
      · exact h.elim
theorem cH.pq{N:cH}(h:N.right):N.text.length<=100:=by
  obtain⟨k,m,y,p,u⟩:=N;rcases oN h with hk|hk|hk
  · simp only at hk;simp[cH.text,hk]
  · obtain⟨h1,h2,⟨h3,h4,h5⟩,h6⟩:=(lk hk).1 h;simp only at hk h1 h2 h3 h4 h5 h6;simp[cH.text,hk];omega
  · obtain⟨h1,⟨h3,h4,h5⟩,h6⟩:=(me hk).1 h;simp only at hk h1 h3 h4 h5 h6;have hu:=tF h6;simp[cH.text,hk,qg];omega
structure RdS(s s1:AS)(p o2 o3:Nat)(ce z cs:List AV):Prop where
  le:(s.drop p).le s1
  eye:s1.dD p=some ce
  res:s1.dD o2=some z
  var:s1.dD o3=some cs
  n2:s.dD o2=none
  n3:s.dD o3=none
  p2:p≠o2
  p3:p≠o3
  d:o2≠o3
def xjX(s0 s:AS)(x:AV)(l:List Int):Prop:=(x=eW∧l=[])∨∃t e,x=ea l (.own t e)∧s.own t=some e∧s0.own t=none
structure Rd4(s s1:AS)(p o2 o3 o4:Nat)(ce z cs ds:List AV):Prop where
  rd:RdS s s1 p o2 o3 ce z cs
  obj:s1.dD o4=some ds
  n4:s.dD o4=none
  p4:p≠o4
  d2:o2≠o4
  d3:o3≠o4
theorem eC{a b:AS}(h:a.le b){t:Nat}(k:b.own t=none):a.own t=none:=by
  cases e:a.own t with
  |none=>rfl
  |some x=>rw[h.own t x e] at k;cases k
def lvT:List Nat:=[0,1,0,2,0,1,0,3,0,1,0,2,0,1,0,4,0,1,0,2,0,1,0,3,0,1,0,2,0,1,0,5,0,1,0,2,0,1,0,3,0,1,0,2,0,1,0,4,0,1,0,2,0,1,0,3,0,1,0,2,0,1,0]
def lv(n:Nat):Nat:=lvT.getD n 0
def vX(x:Int):Nat:=if 0<=x∧x<63 then lv x.toNat else 0
def hf(n:Nat):Nat:=2^lv n/2
def lo(n:Nat):Nat:=(n-(2^lv n-1))/2
def hi(n:Nat):Nat:=(n+(2^lv n-1))/2
def Fit(n:Nat):Prop:=n=1∨n=2∨n=4∨n=8∨n=16∨n=32
instance(n:Nat):Decidable (Fit n):=by unfold Fit;infer_instance
theorem Fit.le{n:Nat}(h:Fit n):1<=n∧n<=32:=by rcases h with h|h|h|h|h|h<;>omega
theorem rW(n:Nat):lv n<=5:=by
  by_cases h:n<63
  · exact(by decide:∀n<63,lv n<=5) n h
  · have :lv n=0:=(by simp[lv,bm,lvT,show 63<=n by omega]);omega
def uf(n:Nat):Nat:=if n/2^(lv n+1)%2=0 then n+2^lv n else n-2^lv n
def jl:Nat->Nat->Nat->List Nat
  |0,_,_=>[]
  |k+1,n,leaves=>if n=leaves-1 then[] else uf n::jl k (uf n) leaves
def dR(leaf leaves:Nat):List Nat:=jl 6 (2*leaf) leaves
def lQ:List Nat:=[0,1,56,2,57,49,28,3,61,58,42,50,38,29,17,4,62,47,59,36,45,43,51,22,53,39,33,30,24,18,12,5,63,55,48,27,60,41,37,16,46,35,44,21,52,32,23,11,54,26,40,15,34,20,31,10,25,14,19,9,13,8,7,6]
def uU(n:Nat):AV:=.v (.int .u8 n)
def xB(x:Int):Prop:=0<=x∧Fit x.toNat
instance(x:Int):Decidable (xB x):=by unfold xB;infer_instance
theorem Zj:∀n<63,∃k<64,kE .u64 (mF .u64 (rG .u64 ((n+1:Nat):Int) (Jq .u64 ((n+1:Nat):Int))) 285870213051353865) 58=((k:Nat):Int)∧(aK k (lQ.map uU))[0]? =some (uU (lv n)):=by
  have key:∀n<63,∃k<64,kE .u64 (mF .u64 (rG .u64 ((n+1:Nat):Int) (Jq .u64 ((n+1:Nat):Int))) 285870213051353865) 58=((k:Nat):Int)∧lQ[k]? =some (lv n):=(by decide+kernel);intro n hn;obtain⟨k,h1,h2,h3⟩:=key n hn;refine⟨k,h1,h2,?_⟩;rw[List.getElem?_drop,Nat.add_zero,aN,h3];rfl
theorem kN{n:Nat}(h:n<63):vX (n:Int)=lv n:=by
  unfold vX;rw[if_pos oM,aC]
theorem HS(x:Int):vX x<=5:=by unfold vX;split;exact rW _;omega
theorem VE{l:Nat}(h:l<=5):kE .i64 (oo .i64 1 (l:Int)) 1=((2^l/2:Nat):Int):=(by decide:∀l≤5,kE .i64 (oo .i64 1 ((l:Nat):Int)) 1=((2^l/2:Nat):Int)) l h
theorem R9{l:Nat}(h:l<=5):oo .i64 1 (l:Int)=((2^l:Nat):Int):=(by decide:∀l≤5,oo .i64 1 ((l:Nat):Int)=((2^l:Nat):Int)) l h
theorem rX{l:Nat}(h:l<=5):1<=2^l∧2^l<=32:=(by decide:∀l≤5,1<=2^l∧2^l<=32) l h
def mD(x:Int):Option (Int×Int):=if vX x=0 then none else some (x-((2^vX x/2:Nat):Int),x+((2^vX x/2:Nat):Int))
def pr(x:Int):Int×Int:=if 0<=x∧x<63 then((lo x.toNat:Int),(hi x.toNat:Int)) else(0,-1)
theorem vY(x:Int):2^vX x/2=0↔vX x=0:=by
  have:=HS x;generalize vX x=l at *
  exact(by decide:∀l≤5,2^l/2=0↔l=0) l this
theorem Zk:∀n:Nat,n<63->nn .i64 (gR .i64 (n:Int) (gR .i64 ((2^lv n:Nat):Int) 1)) 2=(lo n:Int)∧nn .i64 (iY .i64 (n:Int) (gR .i64 ((2^lv n:Nat):Int) 1)) 2=(hi n:Int):=by decide+kernel
end Go.AM
namespace Go.Proofs.YtbiefppedlodiaaGreatDoor
open Go Go.AM Go.Proofs Tryz
variable{Γ:Nat->List AV}
theorem Dv(x:Int)(s:AS):aI prog Γ 173 [.v (.int .i64 x)] s (.v (.bool (decide (0<=x∧x<63)))):=by
 refine xH func173 ntmps173 results173 ?_;refine jA ?_;by_cases h:0<=x
 ·refine jB (dT h) ?_;refine jI ?_;exact jW ⟨by simp[h],rfl⟩
 ·refine jB (dF h) ?_;refine jI ?_;exact jW ⟨by simp[h],rfl⟩
theorem MS(hG:Γ 3=lQ.map uU)(n:Nat)(hn:n<63)(s:AS):dS prog Γ 215 [.v (.int .u64 ((n+1:Nat):Int))] s (fun r s'=>r=.v (.int .i64 (lv n))∧s'=s):=by
 refine fm func215 rfl ntmps215 results215 sM ?_;have h0:(((n+1:Nat):Int)==0)=false:=(by simp;omega);refine jA ?_;refine wK fun K hK=>jB @h0 ?_;refine jF<|dX<|hK _ _ ?_;clear hK K;obtain⟨k,hk,Dw,lr⟩:=Zj n hn;have hl:=rW n;have VF:((0:Int)<=(k:Int))=True:=eq_true oM;have LO:((k:Int)<((64:Nat):Int))=True:=eq_true oM;refine wS fun K hK=>?_;simp only[↓DN,Qa,Qb,Qc,Qd,Qe,Qf,Qg,Qh,reduceCtorEq,↓reduceIte,Na,Nb,Nc,Nk,Nf,Ng,Nh,Za,Zb,Zc,TT,hG,Dw,VF,LO,lr,uU,JO (show lv n<2^62 by omega)];refine hK _ _ ?_;clear hK K;exact jJ
theorem Sa(hG:Γ 3=lQ.map uU)(n:Nat)(hn:n<63)(s:AS):aI prog Γ 184 [.v (.int .u64 ((n+1:Nat):Int))] s (.v (.int .i64 (lv n))):=by
 refine xH func184 ntmps184 results184 ?_;refine yd fun K hK=>?_;refine gW ?_;refine hK _ _<|jK (MS hG n hn _) ?_;rintro s1 rfl;exact jJ
theorem vr(hG:Γ 3=lQ.map uU)(x:Int)(s:AS):aI prog Γ 152 [.v (.int .i64 x)] s (.v (.int .i64 (vX x))):=by
 refine xH func152 ntmps152 results152 ?_;refine Q1 fun K hK K hK=>?_;refine b6 (Dv x _) ?_;rintro r s1 ⟨rfl,rfl⟩;by_cases h:0<=x∧x<63
 ·obtain⟨n,rfl⟩:=ba h.1;have hn:n<63:=oM;rw[dT h];refine jR hK ?_;clear hK K;refine gW ?_;refine hK _ _ ?_;clear hK K;have e1:gq .u64 (iY .i64 (n:Int) 1)=((n+1:Nat):Int):=(by rw[js n oM,yD oM]);refine jS @e1 fun K hK=>?_;refine b6 (Sa hG n hn _) ?_;rintro r s2 ⟨rfl,rfl⟩;refine jR hK ?_;clear hK K;refine jI ?_;rw[kN hn];exact jW ⟨rfl,rfl⟩
 ·rw[dF h];refine jR hK ?_;refine mS ?_;rw[show vX x=0 from if_neg h];exact jW ⟨rfl,rfl⟩
theorem tG(hG:Γ 3=lQ.map uU)(x:Int)(s:AS):aI prog Γ 183 [.v (.int .i64 x)] s (.v (.int .i64 ((2^vX x/2:Nat):Int))):=by
 refine xH func183 ntmps183 results183 ?_;have hl:vX x<=5:=(by unfold vX;split;exact rW _;omega);refine jA ?_;refine jK (vr hG x _) ?_;rintro s1 rfl;refine jI ?_;rw[VE hl];exact jW ⟨rfl,rfl⟩
theorem nU(hG:Γ 3=lQ.map uU)(x:Int)(hx: -9000000000000000000<=x∧x<=9000000000000000000)(s:AS):aI prog Γ 151 [.v (.int .i64 x)] s (match mD x with |some k=>.ka [.v (.int .i64 k.1),.v (.bool true)]|none=>.ka [.v (.int .i64 0),.v (.bool false)]):=by
 refine xH func151 ntmps151 results151 ?_;have hl:=HS x;have hp:=rX hl;refine Q1 fun K hK K hK=>?_;refine b6 (tG hG x _) ?_;rintro r s1 ⟨rfl,rfl⟩;by_cases h:vX x=0
 ·have h0:(((2^vX x/2:Nat):Int)==0)=true:=(by rw[beq_iff_eq];have:=(vY x).2 h;omega);refine jV @h0 hK ?_;clear hK K;refine mS ?_;rw[show mD x=none from if_pos h];exact jW ⟨rfl,rfl⟩
 ·have h0:(((2^vX x/2:Nat):Int)==0)=false:=by
   rw[beq_eq_false_iff_ne];intro e;exact h ((vY x).1 oM)
  refine jV @h0 hK ?_;clear hK K;refine gW ?_;refine hK _ _<|jQ fun K hK=>?_;refine b6 (tG hG x _) ?_;rintro r s2 ⟨rfl,rfl⟩;refine jV (fD (a:=x) (b:=((2^vX x/2:Nat):Int)) oM) hK ?_;refine jI ?_;rw[show mD x=some (_,_) from if_neg h];exact jW ⟨rfl,rfl⟩
theorem su(hG:Γ 3=lQ.map uU)(x:Int)(hx: -9000000000000000000<=x∧x<=9000000000000000000)(s:AS):aI prog Γ 150 [.v (.int .i64 x)] s (match mD x with |some k=>.ka [.v (.int .i64 k.2),.v (.bool true)]|none=>.ka [.v (.int .i64 0),.v (.bool false)]):=by
 refine xH func150 ntmps150 results150 ?_;have hl:=HS x;have hp:=rX hl;refine Q1 fun K hK K hK=>?_;refine b6 (tG hG x _) ?_;rintro r s1 ⟨rfl,rfl⟩;by_cases h:vX x=0
 ·have h0:(((2^vX x/2:Nat):Int)==0)=true:=(by rw[beq_iff_eq];have:=(vY x).2 h;omega);refine jV @h0 hK ?_;clear hK K;refine mS ?_;rw[show mD x=none from if_pos h];exact jW ⟨rfl,rfl⟩
 ·have h0:(((2^vX x/2:Nat):Int)==0)=false:=by
   rw[beq_eq_false_iff_ne];intro e;exact h ((vY x).1 oM)
  refine jV @h0 hK ?_;clear hK K;refine gW ?_;refine hK _ _<|jQ fun K hK=>?_;refine b6 (tG hG x _) ?_;rintro r s2 ⟨rfl,rfl⟩;refine jV (kh (a:=x) (b:=((2^vX x/2:Nat):Int)) oM) hK ?_;refine jI ?_;rw[show mD x=some (_,_) from if_neg h];exact jW ⟨rfl,rfl⟩
theorem wT(hG:Γ 3=lQ.map uU)(x:Int)(s:AS):aI prog Γ 128 [.v (.int .i64 x)] s (.ka [.v (.int .i64 (pr x).1),.v (.int .i64 (pr x).2)]):=by
 refine xH func128 ntmps128 results128 ?_;refine Q1 fun K hK K hK=>?_;refine b6 (Dv x _) ?_;rintro r s1 ⟨rfl,rfl⟩;by_cases h:0<=x∧x<63
 ·obtain⟨n,rfl⟩:=ba h.1;have hn:n<63:=oM;have hl:=rW n;have hp:=rX hl;obtain⟨u1,u2⟩:=Zk n hn;rw[dT h];refine jR hK ?_;clear hK K;refine gW ?_;refine hK _ _ ?_;clear hK K;refine jQ fun K hK=>?_;refine b6 (vr hG n _) ?_;rintro r s2 ⟨rfl,rfl⟩;refine jV (Ai (kN hn) (R9 hl)) hK ?_;clear hK K;refine jB (Ai @u1 @u2) ?_;refine jI ?_;rw[show pr (n:Int)=((lo n:Int),(hi n:Int)) from if_pos h];exact jW ⟨rfl,rfl⟩
 ·rw[dF h];refine jR hK ?_;refine mS ?_;rw[show pr x=(0,-1) from if_neg h];exact jW ⟨rfl,rfl⟩
end Go.Proofs.YtbiefppedlodiaaGreatDoor
namespace Go.AM
open Go
theorem qZ{a b:Int}(h:a=b):(a==b)=true:=by simpa using h
theorem pt{a b:Int}(h:a≠b):(a==b)=false:=by simpa using h
theorem neI{a b:Int}(h:a≠b):(a != b)=true:=by simpa using h
theorem eqI{a b:Int}(h:a=b):(a != b)=false:=by simpa using h
theorem qh:((2:Int)=0)=False:=dM
theorem VG{a:Nat}(h:a=0):((a:Int)==0)=true:=by subst h;rfl
theorem Ou{a:Nat}(h:a≠0):((a:Int)==0)=false:=by simpa using h
theorem xbP{a k:Nat}(h:a=k):((a:Int)==(k:Int))=true:=by subst h;simp
theorem xfY{a k:Nat}(h:a≠k):((a:Int)==(k:Int))=false:=by simp only[beq_eq_false_iff_ne,ne_eq];omega
theorem Bz{a b:Nat}(h:a≠b):((a:Int) != (b:Int))=true:=by simp only[bne_iff_ne,ne_eq];omega
theorem ug{a b:Nat}(h:a=b):((a:Int) != (b:Int))=false:=by subst h;simp
theorem MT{a b:List UInt8}(h:a≠b):(a != b)=true∧(!a==b)=true:=⟨by simpa using h,by simpa using h⟩
theorem HT{a b:List UInt8}(h:a=b):(a != b)=false∧(!a==b)=false:=by subst h;simp
theorem eK(i:Nat)(h:i<9223372036854775807):iY .i64 (i:Int) 1=((i+1:Nat):Int):=by
  rw[kh oM];omega
theorem iI(m:Nat)(h:m<9223372036854775807):nn .i64 (m:Int) 2=((m/2:Nat):Int):=by
  have e:(m:Int).tdiv 2=((m/2:Nat):Int):=(Int.ofNat_tdiv m 2).symm;unfold nn;rw[e];exact IntWalk.i64_in _ oM
theorem fp(m:Nat)(h:m<4611686018427387904):mF .i64 2 (m:Int)=((2*m:Nat):Int):=by
  rw[iv oM];omega
theorem xbQ(a:Nat):decide ((a:Int)<0)=false:=dF oM
theorem VH:∀n:Nat,n<=32->1<=n->(rG .i64 (n:Int) (gR .i64 (n:Int) 1)==0)=decide (Fit n):=by decide+kernel
theorem sJ{n:Nat}:xB (n:Int)↔Fit n:=by unfold xB;rw[aC];exact⟨fun h=>h.2,fun h=>⟨oM,h⟩⟩
theorem vu{x:Int}(h:xB x):1<=x∧x<=32:=by have:=h.2.le;have:=h.1;omega
def Sb(x:Int):Int:=if xB x then 2*x-1 else 0
def xC(n l:Nat):Option Nat:=if n=l-1 then none else some (uf n)
theorem PT:∀n:Nat,n<63->(rG .i64 (n:Int) (mF .i64 2 ((2^lv n:Nat):Int))==0)=decide (n/2^(lv n+1)%2=0)∧iY .i64 (n:Int) ((2^lv n:Nat):Int)=((n+2^lv n:Nat):Int)∧
    (¬n/2^(lv n+1)%2=0->gR .i64 (n:Int) ((2^lv n:Nat):Int)=((n-2^lv n:Nat):Int)):=by decide+kernel
def nodeAt(leaf l:Nat):Nat->Nat
  |0=>2*leaf
  |i+1=>(dR leaf l).getD i 0
theorem Fit.pow{n:Nat}(h:Fit n):∃m,m<=5∧n=2^m:=by
  rcases h with rfl|rfl|rfl|rfl|rfl|rfl
  · exact⟨0,dM,rfl⟩
  · exact⟨1,dM,rfl⟩
  · exact⟨2,dM,rfl⟩
  · exact⟨3,dM,rfl⟩
  · exact⟨4,dM,rfl⟩
  · exact⟨5,dM,rfl⟩
theorem MU{leaf l:Nat}(hl:Fit l)(h:leaf<l){i:Nat}(hi:i<=(dR leaf l).length):nodeAt leaf l i<2*l-1∧xC (nodeAt leaf l i) l=(dR leaf l)[i]?:=by
  obtain⟨m,hm,rfl⟩:=hl.pow;exact(by decide+kernel:∀m≤5,∀leaf<2^m,∀i≤(dR leaf (2^m)).length,nodeAt leaf (2^m) i<2*2^m-1∧xC (nodeAt leaf (2^m) i) (2^m)=(dR leaf (2^m))[i]?) m hm leaf h i hi
theorem kV{leaf l:Nat}(hl:Fit l)(h:leaf<l):(dR leaf l).length<=5:=by
  obtain⟨m,hm,rfl⟩:=hl.pow;exact(by decide+kernel:∀m≤5,∀leaf<2^m,(dR leaf (2^m)).length<=5) m hm leaf h
theorem vv{leaf l:Nat}(hl:Fit l)(h:leaf<l):∀x∈dR leaf l,x<2*l-1∧x%2=1∧lo x<=leaf∧leaf<=hi x:=by
  obtain⟨m,hm,rfl⟩:=hl.pow;exact(by decide+kernel:∀m≤5,∀leaf<2^m,∀x∈dR leaf (2^m),x<2*2^m-1∧x%2=1∧lo x<=leaf∧leaf<=hi x) m hm leaf h
def uI(leaf l:Nat):List Nat:=(dR leaf l).reverse++[2*leaf]
def Cz(leaf l:Nat):Nat->Nat×Nat
  |0=>(0,2*l-2)
  |j+1=>let s:=Cz leaf l j;let uJ:=(s.1+s.2)/2;if 2*leaf<uJ then(s.1,uJ-1) else(uJ+1,s.2)
theorem PU{leaf l:Nat}(hl:Fit l)(h:leaf<l){j:Nat}(hj:j<(uI leaf l).length):
    (uI leaf l)[j]? =some (((Cz leaf l j).1+(Cz leaf l j).2)/2)∧(j+1=(uI leaf l).length↔2*leaf=((Cz leaf l j).1+(Cz leaf l j).2)/2)∧(Cz leaf l j).1+(Cz leaf l j).2<=200:=by
  obtain⟨m,hm,rfl⟩:=hl.pow;exact(by decide+kernel:∀m≤5,∀leaf<2^m,∀j<(uI leaf (2^m)).length,(uI leaf (2^m))[j]? =some (((Cz leaf (2^m) j).1+(Cz leaf (2^m) j).2)/2)∧(j+1=(uI leaf (2^m)).length↔2*leaf=((Cz leaf (2^m) j).1+(Cz leaf (2^m) j).2)/2)∧(Cz leaf (2^m) j).1+(Cz leaf (2^m) j).2<=200) m hm leaf h j hj
theorem VI:∀n<63,(n%2=1->lv n=lv (n/2)+1)∧(n%2=0->lv n=0):=by decide+kernel
theorem VJ:∀n<63,lv n≠0->lo (n-hf n)=lo n∧lv (n-hf n)+1=lv n∧n-hf n<63∧hf n<=n:=by decide+kernel
theorem VK:∀n<63,lv n≠0->hi (n+hf n)=hi n∧lv (n+hf n)+1=lv n∧n+hf n<63:=by decide+kernel
theorem Ov:∀n<63,lv n=0->lo n=n/2∧hi n=n/2:=by decide+kernel
def ew(l:List Nat):List Int:=l.map fun(n:Nat)=>(n:Int)
theorem fh(l:List Nat):(ew l).length=l.length:=by simp[ew]
end Go.AM
namespace Go.Proofs.YtbiefppedlodiaaGreatDoor
open Go Go.AM Go.Proofs Tryz
variable{Γ:Nat->List AV}
theorem yR(x:Int)(s:AS):aI prog Γ 148 [.v (.int .i64 x)] s (.v (.bool (decide (xB x)))):=by
 refine xH func148 ntmps148 results148 ?_;refine jA ?_;by_cases h1:1<=x
 ·by_cases h2:x<=32
  ·obtain⟨n,rfl⟩:=ba (show 0<=x by omega);refine jB (Ai (dT h1) (Ai (dT h2) (VH n oM oM))) ?_;refine jI ?_;exact jW ⟨by simp only[sJ],rfl⟩
  ·have hn:decide (xB x)=false:=(dF fun h=>by have:=vu h;omega);refine jB (Ai (dT h1) (dF h2)) ?_;refine jI ?_;rw[hn];exact jW ⟨rfl,rfl⟩
 ·have hn:decide (xB x)=false:=(dF fun h=>by have:=vu h;omega);refine jB (dF h1) ?_;refine jI ?_;rw[hn];exact jW ⟨rfl,rfl⟩
theorem wU(x:Int)(s:AS):aI prog Γ 149 [.v (.int .i64 x)] s (.v (.int .i64 (Sb x))):=by
 refine xH func149 ntmps149 results149 ?_;refine Q1 fun K hK K hK=>?_;refine b6 (yR x _) ?_;rintro r s1 ⟨rfl,rfl⟩;by_cases h:xB x
 ·have hb:=vu h;rw[dT h];refine jR hK ?_;clear hK K;refine gW ?_;refine hK _ _ ?_;clear hK K;refine wq ?_;rw[iv (a:=2) (b:=x) oM,fD (a:=2*x) (b:=1) oM,show Sb x=2*x-1 from if_pos h];exact jW ⟨rfl,rfl⟩
 ·rw[dF h];refine jR hK ?_;refine mS ?_;rw[show Sb x=0 from if_neg h];exact jW ⟨rfl,rfl⟩
theorem J9{l:Nat}(h:Fit l):Sb (l:Int)=((2*l-1:Nat):Int):=by
 have:=h.le;unfold Sb;rw[if_pos (sJ.2 h)];omega
theorem sv(hG:Γ 3=lQ.map uU)(n l:Nat)(hl:Fit l)(hn:n<2*l-1)(s:AS):aI prog Γ 106 [.v (.int .i64 n),.v (.int .i64 l)] s (.ka [.v (.int .i64 ((xC n l).getD 0)),.v (.bool (xC n l).isSome)]):=by
 refine xH func106 ntmps106 results106 ?_;have Ka:=hl.le;have Po:n<63:=oM;have h0:decide ((n:Int)<0)=false:=dF oM;have h1:decide (((2*l-1:Nat):Int)<=(n:Int))=false:=dF oM;have hw:=J9 hl;have hp:=rX (rW n);obtain⟨a1,a2,a3⟩:=PT n Po;refine yd fun K hK=>?_;refine jS @h0 fun K hK=>?_;refine b6 (wU l _) ?_;rintro r s1 ⟨rfl,rfl⟩;by_cases he:n=l-1
 ·have h2:(((n:Nat):Int)==gR .i64 (l:Int) 1)=true:=(by rw[fD oM,beq_iff_eq];omega);refine jV (Ai @hw (Ai @h1 @h2)) hK ?_;clear hK K;refine mS ?_;rw[show xC n l=none from if_pos he];exact jW ⟨rfl,rfl⟩
 ·have h2:(((n:Nat):Int)==gR .i64 (l:Int) 1)=false:=(by rw[fD oM,beq_eq_false_iff_ne];omega);have ha:xC n l=some (uf n):=if_neg he;refine jV (Ai @hw (Ai @h1 @h2)) hK ?_;clear hK K;refine gW ?_;refine hK _ _<|jQ fun K hK=>?_;refine b6 (vr hG n _) ?_;rintro r s2 ⟨rfl,rfl⟩;refine jV (Ai (kN Po) (R9 (rW n))) hK ?_;refine wK fun K hK=>?_;by_cases hb:n/2^(lv n+1)%2=0
  ·rw[dT hb] at a1;refine jB @a1 ?_;refine jE<|jB @a2 ?_;refine jI ?_;rw[ha,show uf n=n+2^lv n from if_pos hb];exact jW ⟨rfl,rfl⟩
  ·rw[dF hb] at a1;refine jB @a1 ?_;refine gW ?_;refine hK _ _<|jB (a3 hb) ?_;refine jI ?_;rw[ha,show uf n=n-2^lv n from if_neg hb];exact jW ⟨rfl,rfl⟩
def re:AV->Nat
 |.sl _ n _ _=>n
 |_=>0
theorem qi(hG:Γ 3=lQ.map uU)(leaf l:Nat)(hl:Fit l)(hn:leaf<l)(s:AS):aI prog Γ 47 [.v (.int .i64 leaf),.v (.int .i64 l)] s (ea (ew (dR leaf l)) .any):=by
 refine xH func47 ntmps47 results47 ?_;have Ka:=hl.le;have Cu:=kV hl hn;have h0:decide ((leaf:Int)<0)=false:=dF oM;have h1:decide ((l:Int)<=(leaf:Int))=false:=dF oM;have np:=fun(i:Nat)(h:i<=(dR leaf l).length)=>MU hl hn h;have XI:∀i,i<(dR leaf l).length->nodeAt leaf l (i+1)=(dR leaf l).getD i 0:=fun i _=>rfl;have Zl:nodeAt leaf l 0=2*leaf:=rfl;generalize dR leaf l=P at *
 refine yd fun K hK=>?_;refine jB (Ai @h0 @h1) ?_;refine gW ?_;refine hK _ _ ?_;clear hK K;refine Q1 fun K hK K hK=>?_;obtain⟨w0,w1⟩:=np 0 (aA _);rw[Zl] at w0 w1;have e0:mF .i64 2 (leaf:Int)=((2*leaf:Nat):Int):=(by rw[iv oM];omega);rw[e0];refine b6 (sv hG (2*leaf) l hl w0 _) ?_;rintro r s1 ⟨rfl,rfl⟩;rw[w1];refine jR hK ?_;clear hK K;refine dH<|dU (fun E s2=>∃(i:Nat)(x:AV),i<=P.length∧E 6=.v (.int .i64 (((P[i]?).getD 0:Nat):Int))∧E 7=.v (.bool (P[i]?).isSome)∧E 1=.v (.int .i64 l)∧E 5=x∧il 1 s1 s2 x i ((ew (P.take i)).map ed)∧s1.le s2)
  (fun E _=>P.length+1-re (E 5)) ?_ ?_
 ·exact⟨0,eW,aA _,rfl,rfl,rfl,rfl,il.nil _ _ _,AS.le.refl _⟩
 ·rintro E1 s2 ⟨i,x,hi,g6,g7,g1,g5,hx,hle⟩ -
  refine wK fun K2 eH=>?_;by_cases et:i<P.length
  ·have hp:P[i]? =some P[i]:=ag et;rw[hp] at g6 g7;simp only[Option.getD_some,Option.isSome_some] at g6 g7;refine jB @g7 ?_;refine ue ?_;refine eH _ _<|nF fun K3 eX=>?_;have Kb:nodeAt leaf l (i+1)=P[i]:=(by rw[XI i et,bm,hp];rfl);obtain⟨w2,w3⟩:=np (i+1) et;rw[Kb] at w2 w3;have ir:ew (P.take (i+1))=ew (P.take i)++[((P[i]:Nat):Int)]:=(by unfold ew;rw[af et,aH];rfl);have fu:∀(E:Env)(s3:AS)(x3:AV),E 6=.v (.int .i64 (P[i]:Nat))->E 1=.v (.int .i64 l)->E 5=x3->il 1 s1 s3 x3 (i+1) ((ew (P.take (i+1))).map ed)->s1.le s3->K3 E s3:=by
    intro E s3 x3 f6 f1 f5 fx Dx;refine eX _ _ ?_;clear eX K3;refine jU (Ai @f6 @f1) fun K hK=>?_;refine b6 (sv hG (P[i]) l hl w2 _) ?_;rintro r s4 ⟨rfl,rfl⟩;rw[w3];refine jM ?_;refine hK _ _ ⟨⟨i+1,x3,et,rfl,rfl,f1,f5,fx,Dx⟩,?_⟩;have m1:re (E1 5)=i:=by
     rw[g5];rcases hx with⟨rfl,rfl,_⟩|⟨t,e,rfl,_⟩<;>rfl
    have m2:re (E 5)=i+1:=by
     rw[f5];rcases fx with⟨rfl,h,_⟩|⟨t,e,rfl,_⟩
     ·omega
     ·rfl
    simp only[dY,Nc,↓reduceIte,m1,m2];omega
   clear eX;rcases hx with⟨rfl,lu,yS⟩|⟨t,e,rfl,ht,mg⟩
   ·refine wE fun K hK=>?_;simp only[↓DN,Qa,Qb,Qc,Qd,Qe,Qf,Qg,Qh,seval,TT,g5,g6,eW,av];intro t ht;refine hK _ _ (fu _ _ (.sl 1 1 [.v (.int .i64 ((P[i]:Nat):Int))] (.own t 0)) g6 g1 rfl ?_ ?_)
    ·refine .inr ⟨t,0,?_,by simp[AS.eT],eC hle ht⟩;rw[ir,aH,yS];subst lu;rfl
    ·exact AS.eE hle (eC hle ht) 0
   ·refine wE fun K hK=>?_;simp only[↓DN,Qa,Qb,Qc,Qd,Qe,Qf,Qg,Qh,seval,TT,g5,g6,ht,av];have LS:(ew (P.take i)).length=i:=(by rw[fh,aV];omega);refine⟨oM,oM,hK _ _ (fu _ _ (.sl 1 (i+1) ((ew (P.take i)).map ed++[.v (.int .i64 ((P[i]:Nat):Int))]) (.own t (e+1))) g6 g1 rfl ?_ ?_)⟩
    ·exact .inr ⟨t,e+1,by rw[ir,aH];rfl,by simp[AS.eT],mg⟩
    ·exact AS.eE hle mg (e+1)
  ·have hp:P[i]? =none:=List.getElem?_eq_none oM;rw[hp] at g7;simp only[Option.isSome_none] at g7;refine jB @g7 ?_;refine sI ?_;simp only[dJ,dn,if_true];refine hK _ _ ?_;obtain rfl:i=P.length:=oM;rw[ad (ax _)] at hx;have hw:=hx.dV;refine jB @g5 ?_;refine jI ?_;refine⟨_,_,?_,hle,rfl,rfl⟩;have LS:=fh P;unfold ea;rw[LS];exact hw
theorem Sc(x:Int):xB x↔x=1∨x=2∨x=4∨x=8∨x=16∨x=32:=by unfold xB Fit;omega
theorem uh(x:Int)(s:AS):aI prog Γ 115 [.v (.int .i64 x)] s (.v (.bool (decide (xB x)))):=by
 refine xH func115 ntmps115 results115 ?_;refine jA ?_;rcases tt6 (x==1) (x==2) (x==4) (x==8) (x==16) (x==32) with hd|hd|hd|hd|hd|hd|hd;all_goals
  refine jB @hd ?_;refine jI ?_;simp only[beq_iff_eq,beq_eq_false_iff_ne,ne_eq] at hd;have hf:=Sc x
 case inr.inr.inr.inr.inr.inr=>
  rw[dF (by rw[hf];omega)];exact jW ⟨rfl,rfl⟩
 all_goals
  rw[dT (by rw[hf];omega)];exact jW ⟨rfl,rfl⟩
theorem mh(x:Int)(s:AS):aI prog Γ 125 [.v (.int .i64 x)] s (.v (.int .i64 (vX x))):=by
 refine xH func125 ntmps125 results125 ?_;refine yd fun K hK=>?_;by_cases h:0<=x∧x<63
 ·obtain⟨n,rfl⟩:=ba h.1;have hn:n<63:=oM;have h0:decide ((n:Int)<0)=false:=dF oM;have h1:decide ((62:Int)<(n:Int))=false:=dF oM;refine jB (Ai @h0 @h1) ?_;refine gW ?_;refine hK _ _<|Q2 fun K hK=>?_;refine dU (fun E s2=>∃(k m:Nat),m<63∧k+lv m=lv n∧E 3=.v (.int .i64 k)∧E 4=.v (.int .i64 m)∧s2=s)
   (fun E _=>match E 4 with |.v (.int _ i)=>i.toNat|_=>0) ?_ ?_
  ·exact⟨0,n,hn,oM,rfl,rfl,rfl⟩
  ·rintro E1 s2 ⟨k,m,hm,hk,g3,g4,rfl⟩ -
   refine wK fun K2 eH=>?_;have hlv:=VI m hm;have hr:mG (m:Int) 2=((m%2:Nat):Int):=mI m 2;have hq:nn .i64 (m:Int) 2=((m/2:Nat):Int):=iI m oM;by_cases vw:m%2=1
   ·have CM:=hlv.1 vw;have hle:=rW n;have hy:((mG (m:Int) 2)==1)=true:=(by rw[hr];exact qZ oM);refine jB (Ai @g4 @hy) ?_;refine xY @hy<|dX<|eH _ _<|nF fun K3 eX=>?_;refine jD @g3 ?_;simp only[dn,dJ,if_true,if_false];refine eX _ _<|jD (Ai @g4 (Ai @hq (js k oM))) ?_;refine⟨⟨k+1,m/2,oM,oM,rfl,rfl,rfl⟩,?_⟩;simp only[g4,dY,↓reduceIte];omega
   ·have CM:=hlv.2 oM;have hy:((mG (m:Int) 2)==1)=false:=(by rw[hr];exact pt oM);refine jB (Ai @g4 @hy) ?_;refine xZ @hy<|ep ?_;simp only[dJ,dn,if_true];refine hK _ _<|jB @g3 ?_;refine jI ?_;exact jW ⟨by rw[kN hn,show k=lv n by omega],rfl⟩
 ·rw[show vX x=0 from if_neg h];by_cases h0:x<0
  ·refine jB (dT h0) ?_;refine Ot ?_;exact jJ
  ·have h1:(62:Int)<x:=oM;refine jB (Ai (dF h0) (dT h1)) ?_;refine Ot ?_;exact jJ
theorem hM(x:Int)(hx: -9000000000000000000<=x∧x<=9000000000000000000)(s:AS):aI prog Γ 76 [.v (.int .i64 x)] s (match mD x with |some k=>.ka [.v (.int .i64 k.1),.v (.int .i64 k.2),.v (.bool true)]|none=>.ka [.v (.int .i64 0),.v (.int .i64 0),.v (.bool false)]):=by
 refine xH func76 ntmps76 results76 ?_;have hl:=HS x;have hp:=rX hl;refine Q1 fun K hK K hK=>?_;refine b6 (mh x _) ?_;rintro r s1 ⟨rfl,rfl⟩;by_cases h:vX x=0
 ·refine jV (VG h) hK ?_;clear hK K;refine mS ?_;rw[show mD x=none from if_pos h];exact jW ⟨rfl,rfl⟩
 ·refine jV (Ou h) hK ?_;clear hK K;refine gW ?_;refine hK _ _<|Q2 fun K hK=>?_;refine dU (fun E s2=>∃(i:Nat),i<vX x∧E 6=.v (.int .i64 ((i+1:Nat):Int))∧E 5=.v (.int .i64 ((2^i:Nat):Int))∧E 0=.v (.int .i64 x)∧s2=s1)
   (fun E _=>match E 6 with |.v (.int _ i)=>7-i.toNat|_=>0) ?_ ?_
  ·exact⟨0,oM,rfl,rfl,rfl,rfl⟩
  ·rintro E1 s2 ⟨i,hi,g6,g5,g0,rfl⟩ -
   refine wK fun K2 eH=>jS (Ai @g6 @g0) fun K hK=>?_;refine b6 (mh x _) ?_;rintro r s3 ⟨rfl,rfl⟩;by_cases et:i+1<vX x
   ·refine jV (Ai @dB (dT et)) hK ?_;clear hK K;refine ue ?_;refine eH _ _<|nF fun K3 eX=>?_;have Dt:=rX (show i<=5 by omega);have hm:mF .i64 ((2^i:Nat):Int) 2=((2^(i+1):Nat):Int):=(by rw[iv oM,cj];omega);refine jD (Ai @g5 @hm) ?_;simp only[dn,dJ,if_true,if_false];refine eX _ _<|jD (Ai @g6 (js (i+1) oM)) ?_;refine⟨⟨i+1,et,rfl,rfl,g0,rfl⟩,?_⟩;simp only[g6,dY,↓reduceIte];omega
   ·refine jV (Ai @dB (dF et)) hK ?_;clear hK K;refine sI ?_;simp only[dJ,dn,if_true];refine hK _ _ ?_;have he:2^i=2^vX x/2:=by
     rw[show vX x=i+1 by omega,cj];omega
    rw[he] at g5;refine jB (Ai @g5 (Ai @g0 (Ai (fD (a:=x) (b:=((2^vX x/2:Nat):Int)) oM) (kh (a:=x) (b:=((2^vX x/2:Nat):Int)) oM)))) ?_;refine jI ?_;rw[show mD x=some (_,_) from if_neg h];exact jW ⟨rfl,rfl⟩
theorem Kc(leaf l:Nat)(hl:Fit l)(hn:leaf<l)(s:AS):aI prog Γ 116 [.v (.int .i64 ((2*leaf:Nat):Int)),.v (.int .i64 l)] s (ea (ew (uI leaf l)) .any):=by
 refine xH func116 ntmps116 results116 ?_;have Ka:=hl.le;have Cu:=kV hl hn;have AB:(uI leaf l).length<=6:=(by simp[uI];omega);have Rg:0<(uI leaf l).length:=(by simp[uI]);have np:=fun(i:Nat)(h:i<(uI leaf l).length)=>PU hl hn h;have pZ:Cz leaf l 0=(0,2*l-2):=rfl;have lA:∀j,Cz leaf l (j+1)=(if 2*leaf<((Cz leaf l j).1+(Cz leaf l j).2)/2 then((Cz leaf l j).1,((Cz leaf l j).1+(Cz leaf l j).2)/2-1) else(((Cz leaf l j).1+(Cz leaf l j).2)/2+1,(Cz leaf l j).2)):=fun j=>rfl;generalize uI leaf l=P at *
 generalize Cz leaf l=S at *
 refine Zi ?_;have e0:gR .i64 (mF .i64 2 (l:Int)) 2=((2*l-2:Nat):Int):=(by rw[fp l oM,fD oM];omega);refine jB @e0 ?_;refine dH<|dU (fun E s2=>∃(i:Nat)(x:AV),i<P.length∧E 6=.v (.int .i64 ((S i).1:Nat))∧E 7=.v (.int .i64 ((S i).2:Nat))∧E 0=.v (.int .i64 ((2*leaf:Nat):Int))∧E 5=x∧il 1 s s2 x i ((ew (P.take i)).map ed)∧s.le s2)
  (fun E _=>P.length+1-re (E 5)) ?_ ?_
 ·refine⟨0,_,Rg,?_,?_,rfl,rfl,il.nil _ _ _,AS.le.refl _⟩
  ·rw[pZ];simp only[dY,Nc,↓reduceIte];rfl
  ·rw[pZ];simp only[dY,Nc,↓reduceIte]
 ·rintro E1 s2 ⟨i,x,hi,g6,g7,g0,g5,hx,hle⟩ -
  refine dH ?_;obtain⟨w1,w2,w3⟩:=np i hi;obtain⟨uJ,Sd⟩:∃m,m=((S i).1+(S i).2)/2:=⟨_,rfl⟩;have xD:=lA i;rw[<-Sd] at w1 w2 xD;have e1:nn .i64 (iY .i64 (((S i).1:Nat):Int) (((S i).2:Nat):Int)) 2=(uJ:Int):=by
   rw[kh oM,show(((S i).1:Nat):Int)+(((S i).2:Nat):Int)=(((S i).1+(S i).2:Nat):Int) by omega,iI _ oM,Sd]
  refine jB (Ai @g6 (Ai @g7 @e1)) ?_;have ir:ew (P.take (i+1))=ew (P.take i)++[(uJ:Int)]:=by
   unfold ew;rw[af hi,aH];rw[ag hi] at w1;rw[bZ w1];rfl
  refine wK fun K3 eX=>?_;have fu:∀(E:Env)(s3:AS)(x3:AV),E 0=.v (.int .i64 ((2*leaf:Nat):Int))->E 6=.v (.int .i64 ((S i).1:Nat))->E 7=.v (.int .i64 ((S i).2:Nat))->E 8=.v (.int .i64 uJ)->E 5=x3->il 1 s s3 x3 (i+1) ((ew (P.take (i+1))).map ed)->s.le s3->K3 E s3:=by
   intro E s3 x3 f0 f6 f7 f8 f5 fx Dx;refine eX _ _ ?_;clear eX K3;refine wK fun K4 jm=>?_;by_cases he:2*leaf=uJ
   ·have UM:=w2.2 he;refine jB (Ai @f0 @f8) ?_;refine xY (qZ (show((2*leaf:Nat):Int)=(uJ:Int) by omega)) ?_;rw[UM,ad (ax _)] at fx;have hw:=fx.dV;refine jB @f5 ?_;refine jI ?_;refine⟨_,_,?_,Dx,rfl,rfl⟩;have LS:=fh P;unfold ea;rw[LS];exact hw
   ·have UM:i+1<P.length:=by
     have:=mt w2.1 he;omega
    refine jB (Ai @f0 @f8) ?_;refine xZ (pt (show ¬((2*leaf:Nat):Int)=(uJ:Int) by omega)) ?_;refine dX<|jm _ _ ?_;have m1:re (E1 5)=i:=by
     rw[g5];rcases hx with⟨rfl,rfl,_⟩|⟨t,e,rfl,_⟩<;>rfl
    have m2:re (E 5)=i+1:=by
     rw[f5];rcases fx with⟨rfl,h,_⟩|⟨t,e,rfl,_⟩
     ·omega
     ·rfl
    by_cases fB:2*leaf<uJ
    ·rw[if_pos fB] at xD;have e2:gR .i64 (uJ:Int) 1=((uJ-1:Nat):Int):=(by rw[fD oM];omega);refine jB (Ai @f0 @f8) ?_;refine xY (Ai (eq_true (show((2*leaf:Nat):Int)<(uJ:Int) by omega)) @not_true_eq_false) ?_;refine jD (Ai @f8 @e2) ?_;refine⟨⟨i+1,x3,UM,?_,?_,f0,f5,fx,Dx⟩,?_⟩
     ·rw[xD];simp only[dY,f6,Nc,↓reduceIte]
     ·rw[xD];simp only[dY,Nc,↓reduceIte]
     ·simp only[dY,Nc,↓reduceIte,m1,m2];omega
    ·rw[if_neg fB] at xD;refine jB (Ai @f0 @f8) ?_;refine xZ (Ai (eq_false (show ¬((2*leaf:Nat):Int)<(uJ:Int) by omega)) @not_false_eq_true) ?_;refine jD (Ai @f8 (js uJ oM)) ?_;refine⟨⟨i+1,x3,UM,?_,?_,f0,f5,fx,Dx⟩,?_⟩
     ·rw[xD];simp only[dY,Nc,↓reduceIte]
     ·rw[xD];simp only[dY,f7,Nc,↓reduceIte]
     ·simp only[dY,Nc,↓reduceIte,m1,m2];omega
  clear eX;rcases hx with⟨rfl,lu,yS⟩|⟨t,e,rfl,ht,mg⟩
  ·refine wE fun K hK=>?_;simp only[↓DN,Qa,Qb,Qc,Qd,Qe,Qf,Qg,Qh,seval,TT,g5,eW,av];intro t ht;refine hK _ _ (fu _ _ (.sl 1 1 [.v (.int .i64 (uJ:Int))] (.own t 0)) g0 g6 g7 rfl rfl ?_ ?_)
   ·refine .inr ⟨t,0,?_,by simp[AS.eT],eC hle ht⟩;rw[ir,aH,yS];subst lu;rfl
   ·exact AS.eE hle (eC hle ht) 0
  ·refine wE fun K hK=>?_;simp only[↓DN,Qa,Qb,Qc,Qd,Qe,Qf,Qg,Qh,seval,TT,g5,ht,av];have LS:(ew (P.take i)).length=i:=(by rw[fh,aV];omega);refine⟨oM,oM,hK _ _ (fu _ _ (.sl 1 (i+1) ((ew (P.take i)).map ed++[.v (.int .i64 (uJ:Int))]) (.own t (e+1))) g0 g6 g7 rfl rfl ?_ ?_)⟩
   ·exact .inr ⟨t,e+1,by rw[ir,aH];rfl,by simp[AS.eT],mg⟩
   ·exact AS.eE hle mg (e+1)
theorem VL{leaf l i:Nat}(h:i<(dR leaf l).length):(ew (uI leaf l))[(dR leaf l).length-1-i]? =some ((((dR leaf l)[i]'h:Nat)):Int):=by
 unfold ew uI;rw[aN,List.getElem?_append_left (by simp;omega),List.getElem?_reverse oM];rw[show(dR leaf l).length-1-((dR leaf l).length-1-i)=i by omega,ag h];rfl
theorem pP(leaf l:Nat)(hl:Fit l)(hn:leaf<l)(s:AS):aI prog Γ 54 [.v (.int .i64 leaf),.v (.int .i64 l)] s (ea (ew (dR leaf l)) .any):=by
 refine xH func54 ntmps54 results54 ?_;have Ka:=hl.le;have Cu:=kV hl hn;have hg:=fun(i:Nat)(h:i<(dR leaf l).length)=>VL h;have Kd:(ew (uI leaf l)).length=(dR leaf l).length+1:=(by rw[fh];simp[uI]);have Zm:=fun s=>Kc (Γ:=Γ) leaf l hl hn s;generalize ew (uI leaf l)=W at *
 generalize dR leaf l=P at *
 have hf:decide (xB (l:Int))=true:=dT (sJ.2 hl);have h1:decide ((l:Int)<=(leaf:Int))=false:=dF oM;refine Q1 fun K hK K hK=>?_;refine b6 (uh l _) ?_;rintro r s1 ⟨rfl,rfl⟩;rw[hf];refine jV (Ai @xbQ @h1) hK ?_;clear hK K;refine gW ?_;refine hK _ _ ?_;clear hK K;refine jS (fp leaf oM) fun K hK=>?_;refine b6 (Zm _) ?_;rintro r s2 ⟨rfl,rfl⟩;refine jR hK ?_;clear hK K;refine yd fun K hK=>?_;have e0:gR .i64 (W.length:Int) 2=(P.length:Int)-1:=(by rw[fD oM];omega);refine jB (Ai @ea.eq_1 @e0) ?_;refine dH<|dU (fun E s3=>∃(i:Nat)(x:AV),i<=P.length∧E 7=.v (.int .i64 ((P.length:Int)-1-(i:Int)))∧E 5=.sl 1 W.length (W.map ed) .any∧E 6=x∧il 1 s2 s3 x i ((ew (P.take i)).map ed)∧s2.le s3)
  (fun E _=>P.length+1-re (E 6)) ?_ ?_
 ·refine⟨0,_,aA _,?_,rfl,rfl,il.nil _ _ _,AS.le.refl _⟩;simp only[dY,Nc,↓reduceIte];congr 2;omega
 ·rintro E1 s3 ⟨i,x,hi,g7,g5,g6,hx,hle⟩ -
  refine wK fun K2 eH=>?_;by_cases et:i<P.length
  ·have gC:decide ((0:Int)<=((P.length:Int)-1-(i:Int)))=true:=dT oM;refine jB (Ai @g7 @gC) ?_;refine ue ?_;refine eH _ _<|nF fun K3 eX=>?_;have ir:ew (P.take (i+1))=ew (P.take i)++[((P[i]:Nat):Int)]:=(by unfold ew;rw[af et,aH];rfl);have fu:∀(E:Env)(s4:AS)(x3:AV),E 7=.v (.int .i64 ((P.length:Int)-1-(i:Int)))->E 5=.sl 1 W.length (W.map ed) .any->E 6=x3->il 1 s2 s4 x3 (i+1) ((ew (P.take (i+1))).map ed)->s2.le s4->K3 E s4:=by
    intro E s4 x3 f7 f5 f6 fx Dx;refine eX _ _ ?_;clear eX K3;refine jD @f7 ?_;refine⟨⟨i+1,x3,et,?_,f5,f6,fx,Dx⟩,?_⟩
    ·simp only[dY,Nc,↓reduceIte];rw[fD oM];congr 2;omega
    ·have m1:re (E1 6)=i:=by
      rw[g6];rcases hx with⟨rfl,rfl,_⟩|⟨t,e,rfl,_⟩<;>rfl
     have m2:re (E 6)=i+1:=by
      rw[f6];rcases fx with⟨rfl,h,_⟩|⟨t,e,rfl,_⟩
      ·omega
      ·rfl
     simp only[dY,Nc,↓reduceIte,m1,m2];omega
   clear eX;have hgi:=hg i et;obtain⟨j,hj⟩:∃j,j=P.length-1-i:=⟨_,rfl⟩;have Hk:(P.length:Int)-1-(i:Int)=(j:Int):=oM;have hjW:j<W.length:=oM;rw[<-hj] at hgi;have gO:aD 1 (aK j (W.map ed))=[.v (.int .i64 ((P[i]:Nat):Int))]:=by
    rw[jt hjW];rw[ag hjW] at hgi;rw[bZ hgi]
   have gC:(0:Int)<=(j:Int):=oM;rw[Hk] at g7 fu;rcases hx with⟨rfl,lu,yS⟩|⟨t,e,rfl,ht,mg⟩
   ·refine wE fun K hK=>?_;simp only[↓DN,Qa,Qb,Qc,Qd,Qe,Qf,Qg,Qh,seval,TT,g5,g6,g7,eW,av,dB,hjW,gC,gO];intro t ht;refine hK _ _ (fu _ _ (.sl 1 1 [.v (.int .i64 ((P[i]:Nat):Int))] (.own t 0)) g7 g5 rfl ?_ ?_)
    ·refine .inr ⟨t,0,?_,by simp[AS.eT],eC hle ht⟩;rw[ir,aH,yS];subst lu;rfl
    ·exact AS.eE hle (eC hle ht) 0
   ·refine wE fun K hK=>?_;simp only[↓DN,Qa,Qb,Qc,Qd,Qe,Qf,Qg,Qh,seval,TT,g5,g6,g7,ht,av,dB,hjW,gC,gO];have LS:(ew (P.take i)).length=i:=(by rw[fh,aV];omega);refine⟨oM,oM,hK _ _ (fu _ _ (.sl 1 (i+1) ((ew (P.take i)).map ed++[.v (.int .i64 ((P[i]:Nat):Int))]) (.own t (e+1))) g7 g5 rfl ?_ ?_)⟩
    ·exact .inr ⟨t,e+1,by rw[ir,aH];rfl,by simp[AS.eT],mg⟩
    ·exact AS.eE hle mg (e+1)
  ·have gC:decide ((0:Int)<=((P.length:Int)-1-(i:Int)))=false:=dF oM;refine jB (Ai @g7 @gC) ?_;refine sI ?_;simp only[dJ,dn,if_true];refine hK _ _ ?_;obtain rfl:i=P.length:=oM;rw[ad (ax _)] at hx;have hw:=hx.dV;refine jB @g6 ?_;refine jI ?_;refine⟨_,_,?_,hle,rfl,rfl⟩;have LS:=fh P;unfold ea;rw[LS];exact hw
theorem sK(x:Int)(s:AS):aI prog Γ 65 [.v (.int .i64 x)] s (.ka [.v (.int .i64 (pr x).1),.v (.int .i64 (pr x).2)]):=by
 refine xH func65 ntmps65 results65 ?_;refine yd fun K hK=>?_;by_cases h:0<=x∧x<63
 ·obtain⟨n,rfl⟩:=ba h.1;have hn:n<63:=oM;have h1:decide ((62:Int)<(n:Int))=false:=dF oM;have MV:pr (n:Int)=((lo n:Int),(hi n:Int)):=if_pos h;refine jB (Ai @xbQ @h1) ?_;refine gW ?_;refine hK _ _<|yd fun K hK=>?_;refine dH<|dU (fun E s2=>∃(m:Nat),m<63∧lo m=lo n∧E 4=.v (.int .i64 m)∧E 5=.v (.int .i64 n)∧s2=s)
   (fun E _=>match E 4 with |.v (.int _ i)=>vX i|_=>0) ?_ ?_
  ·exact⟨n,hn,rfl,rfl,rfl,rfl⟩
  ·rintro E1 s2 ⟨m,hm,He,g4,g5,rfl⟩ -
   refine wK fun K2 eH=>jS @g4 fun K hK=>?_;refine b6 (mh m _) ?_;rintro r s3 ⟨rfl,rfl⟩;rw[kN hm];by_cases hz:lv m=0
   ·refine jR hK ?_;clear hK K;refine xZ (Ai (eq_false (show ¬(0:Int)<((lv m:Nat):Int) by omega)) @not_false_eq_true) ?_;refine ep ?_;simp only[dJ,dn,if_true];refine hK _ _ ?_;clear hK eH K2 K;have hL:=(Ov m hm hz).1;refine nF fun K hK=>?_;refine dU (fun E s4=>∃(m':Nat),m'<63∧hi m'=hi n∧E 5=.v (.int .i64 m')∧E 4=.v (.int .i64 m)∧s4=s3)
     (fun E _=>match E 5 with |.v (.int _ i)=>vX i|_=>0) ?_ ?_
    ·exact⟨n,hn,rfl,g5,g4,rfl⟩
    ·clear g4 g5;rintro E2 s4 ⟨m',JC,I4,g5,g4,rfl⟩ -
     refine wK fun K2 eH=>jS @g5 fun K hK=>?_;refine b6 (mh m' _) ?_;rintro r s5 ⟨rfl,rfl⟩;rw[kN JC];by_cases hz':lv m'=0
     ·refine jR hK ?_;clear hK K;refine xZ (Ai (eq_false (show ¬(0:Int)<((lv m':Nat):Int) by omega)) @not_false_eq_true) ?_;refine ep ?_;simp only[dJ,dn,if_true];refine hK _ _ ?_;clear hK eH K2 K;have hH:=(Ov m' JC hz').2;refine jB (Ai @g4 (Ai @g5 (Ai (iI m oM) (iI m' oM)))) ?_;refine jI ?_;rw[<-hL,<-hH,He,I4,MV];exact jW ⟨rfl,rfl⟩
     ·obtain⟨w1,w2,w3⟩:=VK m' JC hz';refine jR hK ?_;clear hK K;refine xY (Ai (eq_true (show(0:Int)<((lv m':Nat):Int) by omega)) @not_true_eq_false) ?_;refine dX<|eH _ _ ?_;clear eH K2;refine dH ?_;have PV:mD (m':Int)=some (((m':Int)-(hf m':Int)),((m'+hf m':Nat):Int)):=by
       unfold mD;rw[kN JC,if_neg hz'];unfold hf;congr 2
      refine jU @g5 fun K hK=>?_;refine b6 (hM m' oM _) ?_;rintro r s6 ⟨rfl,rfl⟩;rw[PV];refine jM ?_;refine hK _ _ ⟨⟨m'+hf m',w3,by rw[w1,I4],rfl,g4,rfl⟩,?_⟩;simp only[g5,dY,↓reduceIte];rw[kN JC,kN w3];omega
   ·obtain⟨w1,w2,w3,w4⟩:=VJ m hm hz;refine jR hK ?_;refine xY (Ai (eq_true (show(0:Int)<((lv m:Nat):Int) by omega)) @not_true_eq_false) ?_;refine dX<|eH _ _<|dH ?_;have PV:mD (m:Int)=some (((m-hf m:Nat):Int),((m:Int)+(hf m:Int))):=by
     unfold mD;rw[kN hm,if_neg hz];unfold hf at w4⊢;congr 2;omega
    refine jU @g4 fun K hK=>?_;refine b6 (hM m oM _) ?_;rintro r s6 ⟨rfl,rfl⟩;rw[PV];refine jM ?_;refine hK _ _ ⟨⟨m-hf m,w3,by rw[w1,He],rfl,g5,rfl⟩,?_⟩;simp only[g4,dY,↓reduceIte];rw[kN hm,kN w3];omega
 ·have MV:pr x=(0,-1):=if_neg h;by_cases h0:x<0
  ·refine jB (dT h0) ?_;refine mS ?_;rw[MV];exact jW ⟨rfl,rfl⟩
  ·have h1:(62:Int)<x:=oM;refine jB (Ai (dF h0) (dT h1)) ?_;refine mS ?_;rw[MV];exact jW ⟨rfl,rfl⟩
end Go.Proofs.YtbiefppedlodiaaGreatDoor
