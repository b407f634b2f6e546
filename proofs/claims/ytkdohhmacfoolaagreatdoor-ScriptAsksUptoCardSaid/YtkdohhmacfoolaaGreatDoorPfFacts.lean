/- Facts. No condition. -/
import Derived.Test.YtkdohhmacfoolaaGreatDoorRows
import Derived.Test.YtkdohhmacfoolaaGreatDoorPfAmB
set_option linter.unusedSimpArgs false
set_option linter.unusedVariables false
namespace Go.Proofs.YtkdohhmacfoolaaGreatDoor
open Go.Proofs.Tryz Go Go.AM
theorem sz0:aO prog 0=some 1:=by kernel_rfl
theorem sz1:aO prog 1=some 1:=by kernel_rfl
theorem tb1:Tryz.t1.bytes=8:=rfl
theorem sz2:aO prog 2=some 1:=by kernel_rfl
theorem sz3:aO prog 3=some 1:=by kernel_rfl
theorem in3:Tryz.prog.info? 3=some Tryz.t3:=by kernel_rfl
theorem ts3:Tryz.t3.size=1:=rfl
theorem tb3:Tryz.t3.bytes=8:=rfl
theorem tz3:Tryz.t3.zero=some (Value.int IntKind.i64 0):=rfl
theorem zc3:zeroCells? prog 3=some [.v (Value.int IntKind.i64 0)]:=by kernel_rfl
theorem sz4:aO prog 4=some 1:=by kernel_rfl
theorem in4:Tryz.prog.info? 4=some Tryz.t4:=by kernel_rfl
theorem ts4:Tryz.t4.size=1:=rfl
theorem tb4:Tryz.t4.bytes=1:=rfl
theorem tz4:Tryz.t4.zero=some (Value.bool false):=rfl
theorem zc4:zeroCells? prog 4=some [.v (Value.bool false)]:=by kernel_rfl
theorem sz5:aO prog 5=some 1:=by kernel_rfl
theorem in5:Tryz.prog.info? 5=some Tryz.t5:=by kernel_rfl
theorem ts5:Tryz.t5.size=1:=rfl
theorem tb5:Tryz.t5.bytes=1:=rfl
theorem tz5:Tryz.t5.zero=some (Value.int IntKind.u8 0):=rfl
theorem zc5:zeroCells? prog 5=some [.v (Value.int IntKind.u8 0)]:=by kernel_rfl
theorem sz6:aO prog 6=some 1:=by kernel_rfl
theorem sz7:aO prog 7=some 4:=by kernel_rfl
theorem sz8:aO prog 8=some 4:=by kernel_rfl
theorem sz9:aO prog 9=some 1:=by kernel_rfl
theorem in9:Tryz.prog.info? 9=some Tryz.t9:=by kernel_rfl
theorem ts9:Tryz.t9.size=1:=rfl
theorem tb9:Tryz.t9.bytes=16:=rfl
theorem tz9:Tryz.t9.zero=some (Value.string { data:= #[] }):=rfl
theorem zc9:zeroCells? prog 9=some [.v (Value.string { data:= #[] })]:=by kernel_rfl
theorem cKj:aO prog 10=some 1:=by kernel_rfl
theorem cKk:aO prog 11=some 1:=by kernel_rfl
theorem cKl:aO prog 12=some 1:=by kernel_rfl
theorem cKm:aO prog 13=some 2:=by kernel_rfl
theorem cKn:aO prog 14=some 2:=by kernel_rfl
theorem cKo:aO prog 15=some 1:=by kernel_rfl
theorem cKp:aO prog 16=some 1:=by kernel_rfl
theorem cKq:aO prog 17=some 1:=by kernel_rfl
theorem cKr:aO prog 18=some 1:=by kernel_rfl
theorem cKs:aO prog 19=some 1:=by kernel_rfl
theorem cKt:aO prog 20=some 1:=by kernel_rfl
theorem cKu:aO prog 21=some 1:=by kernel_rfl
theorem cKv:aO prog 22=some 3:=by kernel_rfl
theorem bYy:aO prog 23=some 3:=by kernel_rfl
theorem cIu:zeroCells? prog 23=some [.v (Value.int IntKind.i64 0),.v (Value.int IntKind.i64 0),.v (Value.int IntKind.i64 0)]:=by kernel_rfl
theorem cKw:aO prog 24=some 1:=by kernel_rfl
theorem cAo:Tryz.prog.info? 24=some Tryz.t24:=by kernel_rfl
theorem cMu:Tryz.t24.size=1:=rfl
theorem cIa:Tryz.t24.bytes=24:=rfl
theorem cIk:Tryz.t24.zero=some (Value.slice none 0 0):=rfl
theorem cKx:aO prog 25=some 1:=by kernel_rfl
theorem cKy:aO prog 26=some 1:=by kernel_rfl
theorem cGl:aO prog 27=some 1:=by kernel_rfl
theorem bVm:aO prog 28=some 1:=by kernel_rfl
theorem bZd:zeroCells? prog 28=some [.v (Value.slice none 0 0)]:=by kernel_rfl
theorem cKz:aO prog 29=some 5:=by kernel_rfl
theorem cL0:aO prog 30=some 5:=by kernel_rfl
theorem cN1:zeroCells? prog 30=some [.v (Value.int IntKind.i64 0),.v (Value.int IntKind.i64 0),.v (Value.int IntKind.i64 0),.v (Value.slice none 0 0),.v (Value.slice none 0 0)]:=by kernel_rfl
theorem cHl:aO prog 31=some 1:=by kernel_rfl
theorem cL1:aO prog 32=some 6:=by kernel_rfl
theorem bM8:aO prog 33=some 6:=by kernel_rfl
theorem bZe:zeroCells? prog 33=some [.v (Value.int IntKind.i64 0),.v (Value.int IntKind.i64 0),.v (Value.int IntKind.i64 0),.v (Value.slice none 0 0),.v (Value.slice none 0 0),.v (Value.slice none 0 0)]:=by kernel_rfl
theorem cL2:aO prog 34=some 2:=by kernel_rfl
theorem cL3:aO prog 35=some 2:=by kernel_rfl
theorem cN2:zeroCells? prog 35=some [.v (Value.slice none 0 0),.v (Value.int IntKind.i64 0)]:=by kernel_rfl
theorem cL4:aO prog 36=some 1:=by kernel_rfl
theorem cAq:Tryz.prog.info? 36=some Tryz.t36:=by kernel_rfl
theorem cMv:Tryz.t36.size=1:=rfl
theorem cIb:Tryz.t36.bytes=8:=rfl
theorem cIm:Tryz.t36.zero=some (Value.int IntKind.i64 0):=rfl
theorem cL5:aO prog 37=some 1:=by kernel_rfl
theorem cL6:aO prog 38=some 1:=by kernel_rfl
theorem cL7:aO prog 39=some 1:=by kernel_rfl
theorem aO1:aO prog 40=some 1:=by kernel_rfl
theorem bXs:Tryz.prog.info? 40=some Tryz.t40:=by kernel_rfl
theorem bZ4:Tryz.t40.size=1:=rfl
theorem bM9:Tryz.t40.bytes=8:=rfl
theorem bZ6:Tryz.t40.zero=some (Value.int IntKind.u64 0):=rfl
theorem bVv:zeroCells? prog 40=some [.v (Value.int IntKind.u64 0)]:=by kernel_rfl
theorem cL8:aO prog 41=some 4:=by kernel_rfl
theorem cL9:aO prog 42=some 4:=by kernel_rfl
theorem cN3:zeroCells? prog 42=some [.v (Value.int IntKind.i64 0),.v (Value.int IntKind.u64 0),.v (Value.int IntKind.u64 0),.v (Value.string { data:= #[] })]:=by kernel_rfl
theorem cLa:aO prog 43=some 1:=by kernel_rfl
theorem cLb:aO prog 44=some 1:=by kernel_rfl
theorem cLc:aO prog 45=some 1:=by kernel_rfl
theorem cLd:aO prog 46=some 1:=by kernel_rfl
theorem cLe:aO prog 47=some 1:=by kernel_rfl
theorem cLf:aO prog 48=some 1:=by kernel_rfl
theorem cLg:aO prog 49=some 1:=by kernel_rfl
theorem cLh:aO prog 50=some 1:=by kernel_rfl
theorem cLi:aO prog 51=some 1:=by kernel_rfl
theorem cLj:aO prog 52=some 1:=by kernel_rfl
theorem cLk:aO prog 53=some 1:=by kernel_rfl
theorem cLl:aO prog 54=some 1:=by kernel_rfl
theorem cLm:aO prog 55=some 1:=by kernel_rfl
theorem bCl:aO prog 56=some 1:=by kernel_rfl
theorem cJ9:Tryz.prog.info? 56=some Tryz.t56:=by kernel_rfl
theorem cMw:Tryz.t56.size=1:=rfl
theorem cMt:Tryz.t56.bytes=24:=rfl
theorem cN4:zeroCells? prog 56=some [.v (Value.slice none 0 0)]:=by kernel_rfl
theorem cLn:aO prog 57=some 1:=by kernel_rfl
theorem cLo:aO prog 58=some 1:=by kernel_rfl
theorem cLp:aO prog 59=some 1:=by kernel_rfl
theorem cLq:aO prog 60=some 3:=by kernel_rfl
theorem aO2:aO prog 61=some 3:=by kernel_rfl
theorem bOu:Tryz.prog.info? 61=some Tryz.t61:=by kernel_rfl
theorem bRc:Tryz.t61.size=3:=rfl
theorem aV9:Tryz.t61.bytes=24:=rfl
theorem bRd:Tryz.t61.zero=some (Value.agg #[Value.int IntKind.i64 0,Value.int IntKind.i64 0,Value.int IntKind.i64 0]):=rfl
theorem aZk:zeroCells? prog 61=some [.v (Value.int IntKind.i64 0),.v (Value.int IntKind.i64 0),.v (Value.int IntKind.i64 0)]:=by kernel_rfl
theorem cLr:aO prog 62=some 1:=by kernel_rfl
theorem cLs:aO prog 63=some 1:=by kernel_rfl
theorem cLt:aO prog 64=some 1:=by kernel_rfl
theorem cLu:aO prog 65=some 1:=by kernel_rfl
theorem cLv:aO prog 66=some 1:=by kernel_rfl
theorem cLw:aO prog 67=some 9:=by kernel_rfl
theorem cLx:aO prog 68=some 9:=by kernel_rfl
theorem cN5:zeroCells? prog 68=some [.v (Value.int IntKind.i64 0),.v (Value.int IntKind.i64 0),.v (Value.int IntKind.i64 0),.v (Value.slice none 0 0),.v (Value.slice none 0 0),.v (Value.slice none 0 0),.v (Value.slice none 0 0),.v (Value.int IntKind.i64 0),.v (Value.bool false)]:=by kernel_rfl
theorem bYz:aO prog 69=some 1:=by kernel_rfl
theorem bXt:Tryz.prog.info? 69=some Tryz.t69:=by kernel_rfl
theorem bZ5:Tryz.t69.size=1:=rfl
theorem bMa:Tryz.t69.bytes=24:=rfl
theorem bZ7:Tryz.t69.zero=some (Value.slice none 0 0):=rfl
theorem bZf:zeroCells? prog 69=some [.v (Value.slice none 0 0)]:=by kernel_rfl
theorem cLy:aO prog 70=some 1:=by kernel_rfl
theorem cLz:aO prog 71=some 1:=by kernel_rfl
theorem cM0:aO prog 72=some 1:=by kernel_rfl
theorem cM1:aO prog 73=some 1:=by kernel_rfl
theorem cM2:aO prog 74=some 1:=by kernel_rfl
theorem cM3:aO prog 75=some 1:=by kernel_rfl
theorem cM4:aO prog 76=some 1:=by kernel_rfl
theorem cM5:aO prog 77=some 1:=by kernel_rfl
theorem cM6:aO prog 78=some 1:=by kernel_rfl
theorem cM7:aO prog 79=some 1:=by kernel_rfl
theorem cM8:aO prog 80=some 1:=by kernel_rfl
theorem cM9:aO prog 81=some 1:=by kernel_rfl
theorem cMa:aO prog 82=some 1:=by kernel_rfl
theorem cMb:aO prog 83=some 1:=by kernel_rfl
theorem cMc:aO prog 84=some 1:=by kernel_rfl
theorem cMd:aO prog 85=some 1:=by kernel_rfl
theorem cMe:aO prog 86=some 1:=by kernel_rfl
theorem cMf:aO prog 87=some 1:=by kernel_rfl
theorem cMg:aO prog 88=some 1:=by kernel_rfl
theorem cMh:aO prog 89=some 1:=by kernel_rfl
theorem cMi:aO prog 90=some 1:=by kernel_rfl
theorem cMj:aO prog 91=some 1:=by kernel_rfl
theorem cMk:aO prog 92=some 1:=by kernel_rfl
theorem cMl:aO prog 93=some 2:=by kernel_rfl
theorem bR3:aO prog 94=some 2:=by kernel_rfl
theorem bT2:Tryz.prog.info? 94=some Tryz.t94:=by kernel_rfl
theorem bVr:Tryz.t94.size=2:=rfl
theorem bCp:Tryz.t94.bytes=16:=rfl
theorem bVt:Tryz.t94.zero=some (Value.agg #[Value.int IntKind.u64 0,Value.int IntKind.u64 0]):=rfl
theorem bRj:zeroCells? prog 94=some [.v (Value.int IntKind.u64 0),.v (Value.int IntKind.u64 0)]:=by kernel_rfl
theorem cMm:aO prog 95=some 2:=by kernel_rfl
theorem bR4:aO prog 96=some 2:=by kernel_rfl
theorem bT3:Tryz.prog.info? 96=some Tryz.t96:=by kernel_rfl
theorem bVs:Tryz.t96.size=2:=rfl
theorem bCq:Tryz.t96.bytes=16:=rfl
theorem bVu:Tryz.t96.zero=some (Value.agg #[Value.bool false,Value.int IntKind.u64 0]):=rfl
theorem bRk:zeroCells? prog 96=some [.v (Value.bool false),.v (Value.int IntKind.u64 0)]:=by kernel_rfl
theorem cMn:aO prog 97=some 1:=by kernel_rfl
theorem cMo:aO prog 98=some 1:=by kernel_rfl
theorem cMp:aO prog 99=some 1:=by kernel_rfl
theorem cBw:aO prog 100=some 1:=by kernel_rfl
theorem cBx:aO prog 101=some 1:=by kernel_rfl
theorem cBy:aO prog 102=some 1:=by kernel_rfl
theorem cBz:aO prog 103=some 1:=by kernel_rfl
theorem cC0:aO prog 104=some 1:=by kernel_rfl
theorem cC1:aO prog 105=some 3:=by kernel_rfl
theorem cC2:aO prog 106=some 3:=by kernel_rfl
theorem cC3:aO prog 107=some 1:=by kernel_rfl
theorem cC4:aO prog 108=some 1:=by kernel_rfl
theorem cC5:aO prog 109=some 1:=by kernel_rfl
theorem cC6:aO prog 110=some 1:=by kernel_rfl
theorem cC7:aO prog 111=some 1:=by kernel_rfl
theorem cC8:aO prog 112=some 1:=by kernel_rfl
theorem cC9:aO prog 113=some 1:=by kernel_rfl
theorem cCa:aO prog 114=some 1:=by kernel_rfl
theorem cCb:aO prog 115=some 1:=by kernel_rfl
theorem cCc:aO prog 116=some 1:=by kernel_rfl
theorem cCd:aO prog 117=some 1:=by kernel_rfl
theorem cCe:aO prog 118=some 1:=by kernel_rfl
theorem cCf:aO prog 119=some 1:=by kernel_rfl
theorem cCg:aO prog 120=some 1:=by kernel_rfl
theorem cCh:aO prog 121=some 1:=by kernel_rfl
theorem cCi:aO prog 122=some 1:=by kernel_rfl
theorem cCj:aO prog 123=some 1:=by kernel_rfl
theorem cCk:aO prog 124=some 6:=by kernel_rfl
theorem cCl:aO prog 125=some 6:=by kernel_rfl
theorem cIp:zeroCells? prog 125=some [.v (Value.int IntKind.i64 0),.v (Value.int IntKind.i64 0),.v (Value.int IntKind.i64 0),.v (Value.slice none 0 0),.v (Value.slice none 0 0),.v (Value.slice none 0 0)]:=by kernel_rfl
theorem cCm:aO prog 126=some 1:=by kernel_rfl
theorem cCn:aO prog 127=some 1:=by kernel_rfl
theorem cCo:aO prog 128=some 1:=by kernel_rfl
theorem cCp:aO prog 129=some 1:=by kernel_rfl
theorem cCq:aO prog 130=some 1:=by kernel_rfl
theorem cCr:aO prog 131=some 1:=by kernel_rfl
theorem cCs:aO prog 132=some 2:=by kernel_rfl
theorem cCt:aO prog 133=some 2:=by kernel_rfl
theorem cCu:aO prog 134=some 1:=by kernel_rfl
theorem cCv:aO prog 135=some 1:=by kernel_rfl
theorem cCw:aO prog 136=some 1:=by kernel_rfl
theorem cCx:aO prog 137=some 1:=by kernel_rfl
theorem cCy:aO prog 138=some 1:=by kernel_rfl
theorem cCz:aO prog 139=some 1:=by kernel_rfl
theorem cD0:aO prog 140=some 1:=by kernel_rfl
theorem cD1:aO prog 141=some 1:=by kernel_rfl
theorem cD2:aO prog 142=some 1:=by kernel_rfl
theorem cD3:aO prog 143=some 1:=by kernel_rfl
theorem cD4:aO prog 144=some 1:=by kernel_rfl
theorem cD5:aO prog 145=some 1:=by kernel_rfl
theorem cD6:aO prog 146=some 1:=by kernel_rfl
theorem cD7:aO prog 147=some 1:=by kernel_rfl
theorem bX1:zeroCells? prog 147=some [.v (Value.pointer none)]:=by kernel_rfl
theorem cD8:aO prog 148=some 1:=by kernel_rfl
theorem cD9:aO prog 149=some 1:=by kernel_rfl
theorem cDa:aO prog 150=some 1:=by kernel_rfl
theorem cDb:aO prog 151=some 1:=by kernel_rfl
theorem cDc:aO prog 152=some 1:=by kernel_rfl
theorem cDd:aO prog 153=some 1:=by kernel_rfl
theorem cDe:aO prog 154=some 1:=by kernel_rfl
theorem cDf:aO prog 155=some 1:=by kernel_rfl
theorem cDg:aO prog 156=some 1:=by kernel_rfl
theorem cDh:aO prog 157=some 1:=by kernel_rfl
theorem bWg:Tryz.prog.info? 157=some Tryz.t157:=by kernel_rfl
theorem cIe:Tryz.t157.size=1:=rfl
theorem bWs:Tryz.t157.bytes=24:=rfl
theorem bWw:Tryz.t157.zero=some (Value.slice none 0 0):=rfl
theorem cDi:aO prog 158=some 1:=by kernel_rfl
theorem cDj:aO prog 159=some 1:=by kernel_rfl
theorem cDk:aO prog 160=some 1:=by kernel_rfl
theorem cDl:aO prog 161=some 1:=by kernel_rfl
theorem cDm:aO prog 162=some 1:=by kernel_rfl
theorem cDn:aO prog 163=some 1:=by kernel_rfl
theorem cDo:aO prog 164=some 1:=by kernel_rfl
theorem cDp:aO prog 165=some 1:=by kernel_rfl
theorem cDq:aO prog 166=some 1:=by kernel_rfl
theorem cDr:aO prog 167=some 1:=by kernel_rfl
theorem cDs:aO prog 168=some 1:=by kernel_rfl
theorem cDt:aO prog 169=some 2:=by kernel_rfl
theorem cDu:aO prog 170=some 2:=by kernel_rfl
theorem cDv:aO prog 171=some 1:=by kernel_rfl
theorem cDw:aO prog 172=some 1:=by kernel_rfl
theorem cDx:aO prog 173=some 1:=by kernel_rfl
theorem cDy:aO prog 174=some 1:=by kernel_rfl
theorem cDz:aO prog 175=some 1:=by kernel_rfl
theorem cE0:aO prog 176=some 1:=by kernel_rfl
theorem cE1:aO prog 177=some 1:=by kernel_rfl
theorem cE2:aO prog 178=some 1:=by kernel_rfl
theorem cE3:aO prog 179=some 1:=by kernel_rfl
theorem cE4:aO prog 180=some 2:=by kernel_rfl
theorem cAm:Tryz.prog.info? 180=some Tryz.t180:=by kernel_rfl
theorem cIf:Tryz.t180.size=2:=rfl
theorem bWt:Tryz.t180.bytes=16:=rfl
theorem cIi:Tryz.t180.zero=some (Value.agg #[Value.int IntKind.u64 0,Value.int IntKind.u64 0]):=rfl
theorem cIq:zeroCells? prog 180=some [.v (Value.int IntKind.u64 0),.v (Value.int IntKind.u64 0)]:=by kernel_rfl
theorem cE5:aO prog 181=some 1:=by kernel_rfl
theorem cE6:aO prog 182=some 1:=by kernel_rfl
theorem cE7:aO prog 183=some 1:=by kernel_rfl
theorem cE8:aO prog 184=some 1:=by kernel_rfl
theorem cE9:aO prog 185=some 1:=by kernel_rfl
theorem cEa:aO prog 186=some 1:=by kernel_rfl
theorem cEb:aO prog 187=some 1:=by kernel_rfl
theorem cEc:aO prog 188=some 1:=by kernel_rfl
theorem cEd:aO prog 189=some 1:=by kernel_rfl
theorem cEe:aO prog 190=some 1:=by kernel_rfl
theorem cEf:aO prog 191=some 1:=by kernel_rfl
theorem cEg:aO prog 192=some 1:=by kernel_rfl
theorem cEh:aO prog 193=some 2:=by kernel_rfl
theorem bHs:aO prog 194=some 2:=by kernel_rfl
theorem cIr:zeroCells? prog 194=some [.v (Value.int IntKind.u64 0),.v (Value.int IntKind.i64 0)]:=by kernel_rfl
theorem cEi:aO prog 195=some 1:=by kernel_rfl
theorem cEj:aO prog 196=some 1:=by kernel_rfl
theorem cEk:aO prog 197=some 1:=by kernel_rfl
theorem cEl:aO prog 198=some 1:=by kernel_rfl
theorem cEm:aO prog 199=some 1:=by kernel_rfl
theorem cEn:aO prog 200=some 1:=by kernel_rfl
theorem cEo:aO prog 201=some 1:=by kernel_rfl
theorem cEp:aO prog 202=some 1:=by kernel_rfl
theorem cEq:aO prog 203=some 1:=by kernel_rfl
theorem cEr:aO prog 204=some 1:=by kernel_rfl
theorem cEs:aO prog 205=some 1:=by kernel_rfl
theorem cEt:aO prog 206=some 1:=by kernel_rfl
theorem cEu:aO prog 207=some 1:=by kernel_rfl
theorem cEv:aO prog 208=some 1:=by kernel_rfl
theorem cEw:aO prog 209=some 1:=by kernel_rfl
theorem cEx:aO prog 210=some 1:=by kernel_rfl
theorem cEy:aO prog 211=some 1:=by kernel_rfl
theorem cEz:aO prog 212=some 1:=by kernel_rfl
theorem cF0:aO prog 213=some 1:=by kernel_rfl
theorem cF1:aO prog 214=some 3:=by kernel_rfl
theorem cF2:aO prog 215=some 3:=by kernel_rfl
theorem cIs:zeroCells? prog 215=some [.v (Value.int IntKind.i64 0),.v (Value.int IntKind.i64 0),.v (Value.slice none 0 0)]:=by kernel_rfl
theorem cF3:aO prog 216=some 1:=by kernel_rfl
theorem cF4:aO prog 217=some 1:=by kernel_rfl
theorem cF5:aO prog 218=some 1:=by kernel_rfl
theorem cF6:aO prog 219=some 1:=by kernel_rfl
theorem cF7:aO prog 220=some 1:=by kernel_rfl
theorem cF8:aO prog 221=some 1:=by kernel_rfl
theorem cF9:aO prog 222=some 1:=by kernel_rfl
theorem cFa:aO prog 223=some 2:=by kernel_rfl
theorem cAn:Tryz.prog.info? 223=some Tryz.t223:=by kernel_rfl
theorem cIg:Tryz.t223.size=2:=rfl
theorem bWu:Tryz.t223.bytes=16:=rfl
theorem cIj:Tryz.t223.zero=some (Value.agg #[Value.bool false,Value.int IntKind.u64 0]):=rfl
theorem cIt:zeroCells? prog 223=some [.v (Value.bool false),.v (Value.int IntKind.u64 0)]:=by kernel_rfl
theorem cFb:aO prog 224=some 1:=by kernel_rfl
theorem cFc:aO prog 225=some 1:=by kernel_rfl
theorem cFd:aO prog 226=some 1:=by kernel_rfl
theorem cFe:aO prog 227=some 1:=by kernel_rfl
theorem cFf:aO prog 228=some 1:=by kernel_rfl
theorem cFg:aO prog 229=some 1:=by kernel_rfl
theorem cFh:aO prog 230=some 1:=by kernel_rfl
theorem cFi:aO prog 231=some 1:=by kernel_rfl
theorem cFj:aO prog 232=some 6:=by kernel_rfl
theorem cFk:aO prog 233=some 6:=by kernel_rfl
theorem cIv:zeroCells? prog 233=some [.v (Value.pointer none),.v (Value.pointer none),.v (Value.int IntKind.u64 0),.v (Value.int IntKind.i64 0),.v (Value.int IntKind.i64 0),.v (Value.int IntKind.i64 0)]:=by kernel_rfl
theorem cFl:aO prog 234=some 1:=by kernel_rfl
theorem cFm:aO prog 235=some 1:=by kernel_rfl
theorem cFn:aO prog 236=some 1:=by kernel_rfl
theorem cFo:aO prog 237=some 1:=by kernel_rfl
theorem cFp:aO prog 238=some 1:=by kernel_rfl
theorem cFq:aO prog 239=some 1:=by kernel_rfl
theorem cFr:aO prog 240=some 1:=by kernel_rfl
theorem cFs:aO prog 241=some 1:=by kernel_rfl
theorem cFt:aO prog 242=some 1:=by kernel_rfl
theorem cFu:aO prog 243=some 1:=by kernel_rfl
theorem cFv:aO prog 244=some 1:=by kernel_rfl
theorem cFw:aO prog 245=some 1:=by kernel_rfl
theorem cFx:aO prog 246=some 1:=by kernel_rfl
theorem cFy:aO prog 247=some 1:=by kernel_rfl
theorem cFz:aO prog 248=some 1:=by kernel_rfl
theorem cG0:aO prog 249=some 1:=by kernel_rfl
theorem cG1:aO prog 250=some 1:=by kernel_rfl
theorem cG2:aO prog 251=some 1:=by kernel_rfl
theorem cG3:aO prog 252=some 1:=by kernel_rfl
theorem cG4:aO prog 253=some 1:=by kernel_rfl
theorem cG5:aO prog 254=some 1:=by kernel_rfl
theorem cG6:aO prog 255=some 1:=by kernel_rfl
theorem cG7:aO prog 256=some 1:=by kernel_rfl
theorem cG8:aO prog 257=some 1:=by kernel_rfl
theorem cG9:aO prog 258=some 1:=by kernel_rfl
theorem cGa:aO prog 259=some 1:=by kernel_rfl
theorem cGb:aO prog 260=some 1:=by kernel_rfl
theorem cGc:aO prog 261=some 24:=by kernel_rfl
theorem cGd:aO prog 262=some 1:=by kernel_rfl
theorem cGe:aO prog 263=some 1:=by kernel_rfl
theorem cGf:aO prog 264=some 1:=by kernel_rfl
theorem cGg:aO prog 265=some 1:=by kernel_rfl
theorem cGh:aO prog 266=some 1:=by kernel_rfl
theorem cGi:aO prog 267=some 1:=by kernel_rfl
theorem cGj:aO prog 268=some 1:=by kernel_rfl
theorem cGk:aO prog 269=some 1:=by kernel_rfl
theorem cGm:aO prog 270=some 1:=by kernel_rfl
theorem cGn:aO prog 271=some 1:=by kernel_rfl
theorem cGo:aO prog 272=some 1:=by kernel_rfl
theorem cGp:aO prog 273=some 1:=by kernel_rfl
theorem cGq:aO prog 274=some 1:=by kernel_rfl
theorem cGr:aO prog 275=some 1:=by kernel_rfl
theorem cGs:aO prog 276=some 1:=by kernel_rfl
theorem bWr:aO prog 277=some 1:=by kernel_rfl
theorem cAp:Tryz.prog.info? 277=some Tryz.t277:=by kernel_rfl
theorem cIh:Tryz.t277.size=1:=rfl
theorem bWv:Tryz.t277.bytes=4:=rfl
theorem cIl:Tryz.t277.zero=some (Value.int IntKind.u32 0):=rfl
theorem cIw:zeroCells? prog 277=some [.v (Value.int IntKind.u32 0)]:=by kernel_rfl
theorem cGt:aO prog 278=some 1:=by kernel_rfl
theorem cGu:aO prog 279=some 1:=by kernel_rfl
theorem cGv:aO prog 280=some 1:=by kernel_rfl
theorem cGw:aO prog 281=some 1:=by kernel_rfl
theorem cGx:aO prog 282=some 1:=by kernel_rfl
theorem cGy:aO prog 283=some 1:=by kernel_rfl
theorem cGz:aO prog 284=some 1:=by kernel_rfl
theorem cH0:aO prog 286=some 1:=by kernel_rfl
theorem cH1:aO prog 287=some 1:=by kernel_rfl
theorem cH2:aO prog 288=some 1:=by kernel_rfl
theorem cH3:aO prog 289=some 1:=by kernel_rfl
theorem cH4:aO prog 290=some 1:=by kernel_rfl
theorem cH5:aO prog 291=some 1:=by kernel_rfl
theorem cH6:aO prog 292=some 1:=by kernel_rfl
theorem cH7:aO prog 293=some 1:=by kernel_rfl
theorem cH8:aO prog 295=some 1:=by kernel_rfl
theorem cH9:aO prog 297=some 1:=by kernel_rfl
theorem cHa:aO prog 298=some 20:=by kernel_rfl
theorem cHb:aO prog 299=some 65:=by kernel_rfl
theorem bCk:aO prog 300=some 1:=by kernel_rfl
theorem cIx:zeroCells? prog 300=some [.v (Value.int IntKind.u64 0)]:=by kernel_rfl
theorem cHc:aO prog 301=some 1:=by kernel_rfl
theorem cHd:aO prog 302=some 1:=by kernel_rfl
theorem cHe:aO prog 303=some 1:=by kernel_rfl
theorem cHf:aO prog 304=some 1:=by kernel_rfl
theorem cHg:aO prog 305=some 1:=by kernel_rfl
theorem cHh:aO prog 306=some 1:=by kernel_rfl
theorem cHi:aO prog 307=some 1:=by kernel_rfl
theorem cHj:aO prog 308=some 1:=by kernel_rfl
theorem cHk:aO prog 309=some 1:=by kernel_rfl
theorem cHm:aO prog 310=some 1:=by kernel_rfl
theorem cHn:aO prog 311=some 1:=by kernel_rfl
theorem cHo:aO prog 312=some 1:=by kernel_rfl
theorem cHp:aO prog 313=some 1:=by kernel_rfl
theorem cHq:aO prog 314=some 1:=by kernel_rfl
theorem cHr:aO prog 315=some 1:=by kernel_rfl
theorem cHs:aO prog 316=some 32:=by kernel_rfl
theorem cHt:aO prog 317=some 64:=by kernel_rfl
theorem cHu:aO prog 318=some 1:=by kernel_rfl
theorem cHv:aO prog 319=some 4:=by kernel_rfl
theorem cHw:aO prog 320=some 4:=by kernel_rfl
theorem cHx:aO prog 321=some 0:=by kernel_rfl
theorem cHy:aO prog 322=some 0:=by kernel_rfl
theorem cHz:aO prog 323=some 0:=by kernel_rfl
theorem cI0:aO prog 324=some 1:=by kernel_rfl
theorem cI1:aO prog 325=some 1:=by kernel_rfl
theorem cI2:aO prog 326=some 1:=by kernel_rfl
theorem cI3:aO prog 327=some 1:=by kernel_rfl
theorem cI4:aO prog 328=some 1:=by kernel_rfl
theorem cI5:aO prog 329=some 1:=by kernel_rfl
theorem cI6:aO prog 330=some 11:=by kernel_rfl
theorem cI7:aO prog 331=some 11:=by kernel_rfl
theorem cI8:aO prog 332=some 1:=by kernel_rfl
theorem cI9:aO prog 333=some 1:=by kernel_rfl
abbrev FbP(k:Nat):Prop:=(Program.funcs prog)[k]?.any (fun fn=>fn.body.isSome&&fn.name != "runtime.NumGoroutine")=true
theorem fbT{k:Nat}{f}(h:(Program.funcs prog)[k]? =some f)(h':(f.body.isSome&&f.name != "runtime.NumGoroutine")=true):FbP k:=by
 show (Program.funcs prog)[k]?.any _=true;rw [h];exact h'
theorem cJ8:FbP 32:=fbT func32 (by kernel_rfl)
theorem aUi:FbP 42:=fbT func42 (by kernel_rfl)
theorem aXf:FbP 91:=fbT func91 (by kernel_rfl)
theorem bZx:FbP 103:=fbT func103 (by kernel_rfl)
theorem bW4:FbP 104:=fbT func104 (by kernel_rfl)
theorem bW5:FbP 105:=fbT func105 (by kernel_rfl)
theorem bW6:FbP 107:=fbT func107 (by kernel_rfl)
theorem bZy:FbP 115:=fbT func115 (by kernel_rfl)
theorem bZz:FbP 121:=fbT func121 (by kernel_rfl)
theorem cA0:FbP 123:=fbT func123 (by kernel_rfl)
theorem cA1:FbP 127:=fbT func127 (by kernel_rfl)
theorem cA2:FbP 128:=fbT func128 (by kernel_rfl)
theorem bW7:FbP 129:=fbT func129 (by kernel_rfl)
theorem bW8:FbP 153:=fbT func153 (by kernel_rfl)
theorem bO6:FbP 155:=fbT func155 (by kernel_rfl)
theorem bW9:FbP 156:=fbT func156 (by kernel_rfl)
theorem cA3:FbP 157:=fbT func157 (by kernel_rfl)
theorem cA4:FbP 158:=fbT func158 (by kernel_rfl)
theorem bO7:FbP 159:=fbT func159 (by kernel_rfl)
theorem cA5:FbP 160:=fbT func160 (by kernel_rfl)
theorem cA6:FbP 172:=fbT func172 (by kernel_rfl)
theorem bGs:FbP 191:=fbT func191 (by kernel_rfl)
theorem bWa:FbP 192:=fbT func192 (by kernel_rfl)
theorem cA7:FbP 193:=fbT func193 (by kernel_rfl)
theorem cA8:FbP 194:=fbT func194 (by kernel_rfl)
theorem cA9:FbP 195:=fbT func195 (by kernel_rfl)
theorem cAa:FbP 196:=fbT func196 (by kernel_rfl)
theorem cAb:FbP 197:=fbT func197 (by kernel_rfl)
theorem cAc:FbP 198:=fbT func198 (by kernel_rfl)
theorem bWb:FbP 199:=fbT func199 (by kernel_rfl)
theorem cAd:FbP 200:=fbT func200 (by kernel_rfl)
theorem cAe:FbP 201:=fbT func201 (by kernel_rfl)
theorem cAf:FbP 218:=fbT func218 (by kernel_rfl)
theorem cAg:FbP 222:=fbT func222 (by kernel_rfl)
theorem cAh:FbP 223:=fbT func223 (by kernel_rfl)
theorem cAi:FbP 228:=fbT func228 (by kernel_rfl)
theorem bGt:FbP 236:=fbT func236 (by kernel_rfl)
theorem bWc:FbP 237:=fbT func237 (by kernel_rfl)
theorem cAj:FbP 239:=fbT func239 (by kernel_rfl)
theorem cAk:FbP 240:=fbT func240 (by kernel_rfl)
theorem bO8:FbP 241:=fbT func241 (by kernel_rfl)
theorem bWd:FbP 242:=fbT func242 (by kernel_rfl)
theorem bO9:FbP 255:=fbT func255 (by kernel_rfl)
theorem mix:Tryz.prog.follows .mixedOrders=true:=by kernel_rfl
@[go_sem] theorem mi3(H:aG)(ρ:Operand→AV)(x:Operand):bK prog H ρ (.makeInterface 3 x)=some (.ifc 3 (ρ x)):=by simp only [bK,underlying3]
@[go_sem] theorem mi4(H:aG)(ρ:Operand→AV)(x:Operand):bK prog H ρ (.makeInterface 4 x)=some (.ifc 4 (ρ x)):=by simp only [bK,underlying4]
@[go_sem] theorem ln9(s:ByteArray):bF prog .len [9] [.v (.string s)]=some (.v (.int .i64 s.size)):=aAe underlying9
@[go_sem] theorem mi9(H:aG)(ρ:Operand→AV)(x:Operand):bK prog H ρ (.makeInterface 9 x)=some (.ifc 9 (ρ x)):=by simp only [bK,underlying9]
@[go_sem] theorem cJb(s:ByteArray):bF prog .len [10] [.v (.string s)]=some (.v (.int .i64 s.size)):=aAe underlying10
@[go_sem] theorem cJc(s:ByteArray):bF prog .len [11] [.v (.string s)]=some (.v (.int .i64 s.size)):=aAe underlying11
theorem cJd(xs:List AV)(n:Nat)(f:Bool):bF prog .len [24] [.sl xs n f]=some (.v (.int .i64 n)):=dG underlying24
theorem cJn(j o n:Nat):bF prog .len [24] [.own j o n]=some (.v (.int .i64 n)):=dB underlying24
theorem cJy(n c:Nat):bF prog .len [24] [.v (.slice none n c)]=some (.v (.int .i64 n)):=dA underlying24
attribute [go_sem] cJd cJn cJy
@[go_sem] theorem cKa(H:aG)(ρ:Operand→AV)(x:Operand):bK prog H ρ (.makeInterface 24 x)=some (.ifc 24 (ρ x)):=by simp only [bK,underlying24]
theorem cJe(xs:List AV)(n:Nat)(f:Bool):bF prog .len [25] [.sl xs n f]=some (.v (.int .i64 n)):=dG underlying25
theorem cJo(j o n:Nat):bF prog .len [25] [.own j o n]=some (.v (.int .i64 n)):=dB underlying25
theorem cJz(n c:Nat):bF prog .len [25] [.v (.slice none n c)]=some (.v (.int .i64 n)):=dA underlying25
attribute [go_sem] cJe cJo cJz
theorem cJf(xs:List AV)(n:Nat)(f:Bool):bF prog .len [27] [.sl xs n f]=some (.v (.int .i64 n)):=dG underlying27
theorem cJp(j o n:Nat):bF prog .len [27] [.own j o n]=some (.v (.int .i64 n)):=dB underlying27
theorem cK0(n c:Nat):bF prog .len [27] [.v (.slice none n c)]=some (.v (.int .i64 n)):=dA underlying27
attribute [go_sem] cJf cJp cK0
theorem cJg(xs:List AV)(n:Nat)(f:Bool):bF prog .len [28] [.sl xs n f]=some (.v (.int .i64 n)):=dG underlying28
theorem cJq(j o n:Nat):bF prog .len [28] [.own j o n]=some (.v (.int .i64 n)):=dB underlying28
theorem cK1(n c:Nat):bF prog .len [28] [.v (.slice none n c)]=some (.v (.int .i64 n)):=dA underlying28
attribute [go_sem] cJg cJq cK1
theorem cJh(xs:List AV)(n:Nat)(f:Bool):bF prog .len [31] [.sl xs n f]=some (.v (.int .i64 n)):=dG underlying31
theorem cJr(j o n:Nat):bF prog .len [31] [.own j o n]=some (.v (.int .i64 n)):=dB underlying31
theorem cK2(n c:Nat):bF prog .len [31] [.v (.slice none n c)]=some (.v (.int .i64 n)):=dA underlying31
attribute [go_sem] cJh cJr cK2
@[go_sem] theorem cKb(H:aG)(ρ:Operand→AV)(x:Operand):bK prog H ρ (.makeInterface 36 x)=some (.ifc 36 (ρ x)):=by simp only [bK,underlying36]
theorem cJi(xs:List AV)(n:Nat)(f:Bool):bF prog .len [53] [.sl xs n f]=some (.v (.int .i64 n)):=dG underlying53
theorem cJs(j o n:Nat):bF prog .len [53] [.own j o n]=some (.v (.int .i64 n)):=dB underlying53
theorem cK3(n c:Nat):bF prog .len [53] [.v (.slice none n c)]=some (.v (.int .i64 n)):=dA underlying53
attribute [go_sem] cJi cJs cK3
theorem cJj(xs:List AV)(n:Nat)(f:Bool):bF prog .len [56] [.sl xs n f]=some (.v (.int .i64 n)):=dG underlying56
theorem cJt(j o n:Nat):bF prog .len [56] [.own j o n]=some (.v (.int .i64 n)):=dB underlying56
theorem cK4(n c:Nat):bF prog .len [56] [.v (.slice none n c)]=some (.v (.int .i64 n)):=dA underlying56
attribute [go_sem] cJj cJt cK4
theorem cJk(xs:List AV)(n:Nat)(f:Bool):bF prog .len [65] [.sl xs n f]=some (.v (.int .i64 n)):=dG underlying65
theorem cJu(j o n:Nat):bF prog .len [65] [.own j o n]=some (.v (.int .i64 n)):=dB underlying65
theorem cK5(n c:Nat):bF prog .len [65] [.v (.slice none n c)]=some (.v (.int .i64 n)):=dA underlying65
attribute [go_sem] cJk cJu cK5
theorem cJl(xs:List AV)(n:Nat)(f:Bool):bF prog .len [69] [.sl xs n f]=some (.v (.int .i64 n)):=dG underlying69
theorem cJv(j o n:Nat):bF prog .len [69] [.own j o n]=some (.v (.int .i64 n)):=dB underlying69
theorem cK6(n c:Nat):bF prog .len [69] [.v (.slice none n c)]=some (.v (.int .i64 n)):=dA underlying69
attribute [go_sem] cJl cJv cK6
theorem cJm(xs:List AV)(n:Nat)(f:Bool):bF prog .len [91] [.sl xs n f]=some (.v (.int .i64 n)):=dG underlying91
theorem cJw(j o n:Nat):bF prog .len [91] [.own j o n]=some (.v (.int .i64 n)):=dB underlying91
theorem cK7(n c:Nat):bF prog .len [91] [.v (.slice none n c)]=some (.v (.int .i64 n)):=dA underlying91
attribute [go_sem] cJm cJw cK7
theorem cAt(xs:List AV)(n:Nat)(f:Bool):bF prog .len [100] [.sl xs n f]=some (.v (.int .i64 n)):=dG underlying100
theorem cB1(j o n:Nat):bF prog .len [100] [.own j o n]=some (.v (.int .i64 n)):=dB underlying100
theorem cB9(n c:Nat):bF prog .len [100] [.v (.slice none n c)]=some (.v (.int .i64 n)):=dA underlying100
attribute [go_sem] cAt cB1 cB9
theorem cAu(xs:List AV)(n:Nat)(f:Bool):bF prog .len [123] [.sl xs n f]=some (.v (.int .i64 n)):=dG underlying123
theorem cB2(j o n:Nat):bF prog .len [123] [.own j o n]=some (.v (.int .i64 n)):=dB underlying123
theorem cBa(n c:Nat):bF prog .len [123] [.v (.slice none n c)]=some (.v (.int .i64 n)):=dA underlying123
attribute [go_sem] cAu cB2 cBa
theorem cAv(xs:List AV)(n:Nat)(f:Bool):bF prog .len [157] [.sl xs n f]=some (.v (.int .i64 n)):=dG underlying157
theorem cB3(j o n:Nat):bF prog .len [157] [.own j o n]=some (.v (.int .i64 n)):=dB underlying157
theorem cBb(n c:Nat):bF prog .len [157] [.v (.slice none n c)]=some (.v (.int .i64 n)):=dA underlying157
attribute [go_sem] cAv cB3 cBb
@[go_sem] theorem cBh(H:aG)(ρ:Operand→AV)(x:Operand):bK prog H ρ (.makeInterface 157 x)=some (.ifc 157 (ρ x)):=by simp only [bK,underlying157]
theorem cAw(xs:List AV)(n:Nat)(f:Bool):bF prog .len [249] [.sl xs n f]=some (.v (.int .i64 n)):=dG underlying249
theorem cB4(j o n:Nat):bF prog .len [249] [.own j o n]=some (.v (.int .i64 n)):=dB underlying249
theorem cBc(n c:Nat):bF prog .len [249] [.v (.slice none n c)]=some (.v (.int .i64 n)):=dA underlying249
attribute [go_sem] cAw cB4 cBc
theorem cAx(xs:List AV)(n:Nat)(f:Bool):bF prog .len [253] [.sl xs n f]=some (.v (.int .i64 n)):=dG underlying253
theorem cB5(j o n:Nat):bF prog .len [253] [.own j o n]=some (.v (.int .i64 n)):=dB underlying253
theorem cBd(n c:Nat):bF prog .len [253] [.v (.slice none n c)]=some (.v (.int .i64 n)):=dA underlying253
attribute [go_sem] cAx cB5 cBd
theorem cAy(xs:List AV)(n:Nat)(f:Bool):bF prog .len [267] [.sl xs n f]=some (.v (.int .i64 n)):=dG underlying267
theorem cB6(j o n:Nat):bF prog .len [267] [.own j o n]=some (.v (.int .i64 n)):=dB underlying267
theorem cBe(n c:Nat):bF prog .len [267] [.v (.slice none n c)]=some (.v (.int .i64 n)):=dA underlying267
attribute [go_sem] cAy cB6 cBe
theorem cAz(xs:List AV)(n:Nat)(f:Bool):bF prog .len [284] [.sl xs n f]=some (.v (.int .i64 n)):=dG underlying284
theorem cB7(j o n:Nat):bF prog .len [284] [.own j o n]=some (.v (.int .i64 n)):=dB underlying284
theorem cBf(n c:Nat):bF prog .len [284] [.v (.slice none n c)]=some (.v (.int .i64 n)):=dA underlying284
attribute [go_sem] cAz cB7 cBf
theorem cB0(xs:List AV)(n:Nat)(f:Bool):bF prog .len [310] [.sl xs n f]=some (.v (.int .i64 n)):=dG underlying310
theorem cB8(j o n:Nat):bF prog .len [310] [.own j o n]=some (.v (.int .i64 n)):=dB underlying310
theorem cBg(n c:Nat):bF prog .len [310] [.v (.slice none n c)]=some (.v (.int .i64 n)):=dA underlying310
attribute [go_sem] cB0 cB8 cBg
attribute [go_sem] underlying0 sz0 underlying1 sz1 underlying2 sz2 underlying3 sz3 underlying4 sz4 underlying5 sz5 underlying6 sz6 underlying7 sz7 underlying8 sz8 underlying9 sz9 underlying10 cKj underlying11 cKk underlying12 cKl underlying13 cKm underlying14 cKn underlying15 cKo underlying16 cKp underlying17 cKq underlying18 cKr underlying19 cKs underlying20 cKt underlying21 cKu underlying22 cKv underlying23 bYy underlying24 cKw underlying25 cKx underlying26 cKy underlying27 cGl underlying28 bVm underlying29 cKz underlying30 cL0 underlying31 cHl underlying32 cL1 underlying33 bM8 underlying34 cL2 underlying35 cL3 underlying36 cL4 underlying37 cL5 underlying38 cL6 underlying39 cL7 underlying40 aO1 underlying41 cL8 underlying42 cL9 underlying43 cLa underlying44 cLb underlying45 cLc underlying46 cLd underlying47 cLe underlying48 cLf underlying49 cLg underlying50 cLh underlying51 cLi underlying52 cLj underlying53 cLk underlying54 cLl underlying55 cLm underlying56 bCl underlying57 cLn underlying58 cLo underlying59 cLp underlying60 cLq underlying61 aO2 underlying62 cLr underlying63 cLs underlying64 cLt underlying65 cLu underlying66 cLv underlying67 cLw underlying68 cLx underlying69 bYz underlying70 cLy underlying71 cLz underlying72 cM0 underlying73 cM1 underlying74 cM2 underlying75 cM3 underlying76 cM4 underlying77 cM5 underlying78 cM6 underlying79 cM7 underlying80 cM8 underlying81 cM9 underlying82 cMa underlying83 cMb underlying84 cMc underlying85 cMd underlying86 cMe underlying87 cMf underlying88 cMg underlying89 cMh underlying90 cMi underlying91 cMj underlying92 cMk underlying93 cMl underlying94 bR3 underlying95 cMm underlying96 bR4 underlying97 cMn underlying98 cMo underlying99 cMp underlying100 cBw underlying101 cBx underlying102 cBy underlying103 cBz underlying104 cC0 underlying105 cC1 underlying106 cC2 underlying107 cC3 underlying108 cC4 underlying109 cC5 underlying110 cC6 underlying111 cC7 underlying112 cC8 underlying113 cC9 underlying114 cCa underlying115 cCb underlying116 cCc underlying117 cCd underlying118 cCe underlying119 cCf underlying120 cCg underlying121 cCh underlying122 cCi underlying123 cCj underlying124 cCk underlying125 cCl underlying126 cCm underlying127 cCn underlying128 cCo underlying129 cCp underlying130 cCq underlying131 cCr underlying132 cCs underlying133 cCt underlying134 cCu underlying135 cCv underlying136 cCw underlying137 cCx underlying138 cCy underlying139 cCz underlying140 cD0 underlying141 cD1 underlying142 cD2 underlying143 cD3 underlying144 cD4 underlying145 cD5 underlying146 cD6 underlying147 cD7 underlying148 cD8 underlying149 cD9 underlying150 cDa underlying151 cDb underlying152 cDc underlying153 cDd underlying154 cDe underlying155 cDf underlying156 cDg underlying157 cDh underlying158 cDi underlying159 cDj underlying160 cDk underlying161 cDl underlying162 cDm underlying163 cDn underlying164 cDo underlying165 cDp underlying166 cDq underlying167 cDr underlying168 cDs underlying169 cDt underlying170 cDu underlying171 cDv underlying172 cDw underlying173 cDx underlying174 cDy underlying175 cDz underlying176 cE0 underlying177 cE1 underlying178 cE2 underlying179 cE3 underlying180 cE4 underlying181 cE5 underlying182 cE6 underlying183 cE7 underlying184 cE8 underlying185 cE9 underlying186 cEa underlying187 cEb underlying188 cEc underlying189 cEd underlying190 cEe underlying191 cEf underlying192 cEg underlying193 cEh underlying194 bHs underlying195 cEi underlying196 cEj underlying197 cEk underlying198 cEl underlying199 cEm underlying200 cEn underlying201 cEo underlying202 cEp underlying203 cEq underlying204 cEr underlying205 cEs underlying206 cEt underlying207 cEu underlying208 cEv underlying209 cEw underlying210 cEx underlying211 cEy underlying212 cEz underlying213 cF0 underlying214 cF1 underlying215 cF2 underlying216 cF3 underlying217 cF4 underlying218 cF5 underlying219 cF6 underlying220 cF7 underlying221 cF8 underlying222 cF9 underlying223 cFa underlying224 cFb underlying225 cFc underlying226 cFd underlying227 cFe underlying228 cFf underlying229 cFg underlying230 cFh underlying231 cFi underlying232 cFj underlying233 cFk underlying234 cFl underlying235 cFm underlying236 cFn underlying237 cFo underlying238 cFp underlying239 cFq underlying240 cFr underlying241 cFs underlying242 cFt underlying243 cFu underlying244 cFv underlying245 cFw underlying246 cFx underlying247 cFy underlying248 cFz underlying249 cG0 underlying250 cG1 underlying251 cG2 underlying252 cG3 underlying253 cG4 underlying254 cG5 underlying255 cG6 underlying256 cG7 underlying257 cG8 underlying258 cG9 underlying259 cGa underlying260 cGb underlying261 cGc underlying262 cGd underlying263 cGe underlying264 cGf underlying265 cGg underlying266 cGh underlying267 cGi underlying268 cGj underlying269 cGk underlying270 cGm underlying271 cGn underlying272 cGo underlying273 cGp underlying274 cGq underlying275 cGr underlying276 cGs underlying277 bWr underlying278 cGt underlying279 cGu underlying280 cGv underlying281 cGw underlying282 cGx underlying283 cGy underlying284 cGz underlying286 cH0 underlying287 cH1 underlying288 cH2 underlying289 cH3 underlying290 cH4 underlying291 cH5 underlying292 cH6 underlying293 cH7 underlying295 cH8 underlying297 cH9 underlying298 cHa underlying299 cHb underlying300 bCk underlying301 cHc underlying302 cHd underlying303 cHe underlying304 cHf underlying305 cHg underlying306 cHh underlying307 cHi underlying308 cHj underlying309 cHk underlying310 cHm underlying311 cHn underlying312 cHo underlying313 cHp underlying314 cHq underlying315 cHr underlying316 cHs underlying317 cHt underlying318 cHu underlying319 cHv underlying320 cHw underlying321 cHx underlying322 cHy underlying323 cHz underlying324 cI0 underlying325 cI1 underlying326 cI2 underlying327 cI3 underlying328 cI4 underlying329 cI5 underlying330 cI6 underlying331 cI7 underlying332 cI8 underlying333 cI9
end Go.Proofs.YtkdohhmacfoolaaGreatDoor
